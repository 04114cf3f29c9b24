/-
  Plain: arguments that are signatures or sentences.
-/
import Derived.Test.YtpcmcfajfnpjeaaGreatDoorQOpenT
import Derived.Test.YtpcmcfajfnpjeaaGreatDoorQJ14
set_option linter.unusedSimpArgs false
set_option linter.unusedVariables false
set_option maxHeartbeats 8000000
set_option maxRecDepth 20000
namespace Go.Proofs.YtpcmcfajfnpjeaaGreatDoor
open Go.ChangeShapes Go.WideShapes Go.ChangeAt Go.RowKit Go.Lamb

def plainTysS : List TypeId := [3, 9, 31, 48, 46, 45, 75, 24, 73, 37, 35, 34, 164, 22, 68, 23, 26, 72, 77]
theorem plainTysS_ok : ∀ t, (plainTysS.contains t) = true → plainB Tryz.prog (fun t => plainTysS.contains t) t = true := by
  have h : (plainTysS.all fun t => plainB Tryz.prog (fun t => plainTysS.contains t) t) = true := by kernel_rfl
  intro t ht
  exact List.all_eq_true.1 h t (by simpa using ht)
structure OkSg (s : Sg) : Prop where
  k : ∀ x ∈ s.kinds, inI x.n
  t : ∀ x ∈ s.types, OkT x.ty
  o : ∀ x ∈ s.ops, inI x.prec ∧ inI x.fix
theorem cells_kd : Tryz.prog.cellsOf 164 = 2 := by kernel_rfl
theorem cells_nm : Tryz.prog.cellsOf 68 = 5 := by kernel_rfl
theorem cells_kds : Tryz.prog.cellsOf 22 = 1 := by kernel_rfl
theorem cells_nms : Tryz.prog.cellsOf 23 = 1 := by kernel_rfl
theorem cells_opsS : Tryz.prog.cellsOf 24 = 1 := by kernel_rfl
theorem cells_sig : Tryz.prog.cellsOf 26 = 3 := by kernel_rfl
theorem take_drops {zs xs : List C} {i n : Nat} (h : (zs.drop i).take n = xs) (j : Nat) (hj : j < n) : zs[i + j]? = xs[j]? := by
  have := congrArg (fun l => l[j]?) h
  simpa [List.getElem?_take, List.getElem?_drop, hj] using this
theorem list_of (m : Nat) {zs ys : List C} (hl : zs.length = m) (hy : ys.length = m) (h : ∀ i, i < m → zs[i]? = ys[i]?) : zs = ys := by
  apply List.ext_getElem?
  intro i
  by_cases hi : i < m
  · exact h i hi
  · rw [List.getElem?_eq_none (by omega), List.getElem?_eq_none (by omega)]
theorem cty_opI {zs : List C} (h : CTy Tryz.prog 75 zs) : ∃ o : OpT, zs = o.cs ∧ inI o.prec ∧ inI o.fix := by
  obtain ⟨hl, hf⟩ := cty_struct Tryz.underlying75 h
  simp only [List.forall_mem_cons, cells_str, cells_int, cells_fix, List.not_mem_nil, false_implies, implies_true, and_true] at hf
  obtain ⟨h0, h1, h2⟩ := hf
  obtain ⟨a, h0⟩ := cty_str Tryz.underlying9 h0
  obtain ⟨b, h1, hb⟩ := cty_intR Tryz.underlying3 h1
  obtain ⟨c, h2, hc⟩ := cty_intR Tryz.underlying73 h2
  exact ⟨⟨a, b, c⟩, list3 (by rw [hl, cells_op]) (take_drop1 h0) (take_drop1 h1) (take_drop1 h2), hb, hc⟩
theorem cty_opsI {zs : List C} (h : CTy Tryz.prog 24 zs) : ∃ l : List OpT, zs = [opsC l] ∧ ∀ x ∈ l, inI x.prec ∧ inI x.fix := by
  obtain ⟨rows, rfl, hr'⟩ := cty_sl Tryz.underlying24 h
  obtain ⟨l, rfl, hq⟩ := rows_ofP (f := OpT.cs) (q := fun x => inI x.prec ∧ inI x.fix) (fun r hr => cty_opI (hr' r hr))
  exact ⟨l, rfl, hq⟩
theorem cty_strs {zs : List C} (h : CTy Tryz.prog 31 zs) : ∃ l : List Str, zs = [strsC l] := by
  obtain ⟨rows, rfl, hr'⟩ := cty_sl Tryz.underlying31 h
  obtain ⟨l, rfl⟩ := rows_of (f := fun s : Str => [C.str s]) (fun r hr => cty_str Tryz.underlying9 (hr' r hr))
  exact ⟨l, rfl⟩
theorem cty_kd {zs : List C} (h : CTy Tryz.prog 164 zs) : ∃ o : KdT, zs = o.cs ∧ inI o.n := by
  obtain ⟨hl, hf⟩ := cty_struct Tryz.underlying164 h
  simp only [List.forall_mem_cons, cells_str, cells_int, List.not_mem_nil, false_implies, implies_true, and_true] at hf
  obtain ⟨h0, h1⟩ := hf
  obtain ⟨a, h0⟩ := cty_str Tryz.underlying9 h0
  obtain ⟨b, h1, hb⟩ := cty_intR Tryz.underlying3 h1
  have e0 := take_drop1 h0
  have e1 := take_drop1 h1
  refine ⟨⟨a, b⟩, list_of 2 (by rw [hl, cells_kd]) rfl fun i hi => ?_, hb⟩
  match i, hi with
  | 0, _ => exact e0
  | 1, _ => exact e1
theorem cty_kds {zs : List C} (h : CTy Tryz.prog 22 zs) : ∃ l : List KdT, zs = [kdsC l] ∧ ∀ x ∈ l, inI x.n := by
  obtain ⟨rows, rfl, hr'⟩ := cty_sl Tryz.underlying22 h
  obtain ⟨l, rfl, hq⟩ := rows_ofP (f := KdT.cs) (q := fun x => inI x.n) (fun r hr => cty_kd (hr' r hr))
  exact ⟨l, rfl, hq⟩
theorem cty_nm {zs : List C} (h : CTy Tryz.prog 68 zs) : ∃ o : NmT, zs = o.cs ∧ OkT o.ty := by
  obtain ⟨hl, hf⟩ := cty_struct Tryz.underlying68 h
  simp only [List.forall_mem_cons, cells_str, cells_ty, List.not_mem_nil, false_implies, implies_true, and_true] at hf
  obtain ⟨h0, h1⟩ := hf
  obtain ⟨a, h0⟩ := cty_str Tryz.underlying9 h0
  obtain ⟨p, h1, hp⟩ := (cty_ty' h1).1 rfl
  rw [Typ.cs_eq] at h1
  have e0 := take_drop1 h0
  have e1 := take_drops h1
  refine ⟨⟨a, p⟩, list_of 5 (by rw [hl, cells_nm]) rfl fun i hi => ?_, hp⟩
  match i, hi with
  | 0, _ => exact e0
  | 1, _ => exact e1 0 (by decide)
  | 2, _ => exact e1 1 (by decide)
  | 3, _ => exact e1 2 (by decide)
  | 4, _ => exact e1 3 (by decide)
theorem cty_nms {zs : List C} (h : CTy Tryz.prog 23 zs) : ∃ l : List NmT, zs = [nmsC l] ∧ ∀ x ∈ l, OkT x.ty := by
  obtain ⟨rows, rfl, hr'⟩ := cty_sl Tryz.underlying23 h
  obtain ⟨l, rfl, hq⟩ := rows_ofP (f := NmT.cs) (q := fun x => OkT x.ty) (fun r hr => cty_nm (hr' r hr))
  exact ⟨l, rfl, hq⟩
theorem cty_sig {zs : List C} (h : CTy Tryz.prog 26 zs) : ∃ s : Sg, zs = [kdsC s.kinds, nmsC s.types, opsC s.ops] ∧ OkSg s := by
  obtain ⟨hl, hf⟩ := cty_struct Tryz.underlying26 h
  simp only [List.forall_mem_cons, cells_kds, cells_nms, cells_opsS, List.not_mem_nil, false_implies, implies_true, and_true] at hf
  obtain ⟨h0, h1, h2⟩ := hf
  obtain ⟨a, h0, ha⟩ := cty_kds h0
  obtain ⟨b, h1, hb⟩ := cty_nms h1
  obtain ⟨c, h2, hc⟩ := cty_opsI h2
  exact ⟨⟨a, b, c⟩, list3 (by rw [hl, cells_sig]) (take_drop1 h0) (take_drop1 h1) (take_drop1 h2), ha, hb, hc⟩
section
variable {H : Type} {enc : TypeId × Value → H} {w : World} {base : Nat} {spare : Nat → Bool} {held : Bool} {v : Value} {d : DataW H} {ps : List MemPlace} {r : Reach} {b0 : Nat}
theorem open_sig (hval : Value.okWide Tryz.prog w r b0 26 v) (h : DataW.Trod enc Tryz.prog w base spare held 26 v d ps) : ∃ s : Sg, RV (K.start w) s.v v ∧ OkSg s := by
  obtain ⟨xs, rfl, _⟩ := okWide_struct Tryz.underlying26 hval
  obtain ⟨zs, h1, h2⟩ := open_Cn plainTysS_ok (by decide) h
  obtain ⟨s, rfl, hs⟩ := cty_sig h1
  exact ⟨s, h2, hs⟩
end
end Go.Proofs.YtpcmcfajfnpjeaaGreatDoor

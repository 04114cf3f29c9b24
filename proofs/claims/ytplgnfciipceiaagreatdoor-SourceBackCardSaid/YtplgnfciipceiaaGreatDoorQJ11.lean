/-
  Plain: heaps with one block of one's own that changes.
  Plain: operators, trees, and how trees are read of tokens.
-/
import Derived.Test.YtplgnfciipceiaaGreatDoorQJ10
import Derived.Test.YtplgnfciipceiaaGreatDoorQLexL
set_option linter.unusedSimpArgs false
set_option linter.unusedVariables false
set_option maxHeartbeats 8000000
set_option maxRecDepth 20000
namespace Go.Lamb
open Go Go.RowKit

def rz (σ : H) (b : Nat) (X : Blk) : H := σ.set b X
section
variable {σ : H} {b : Nat}
@[simp] theorem rz_len (X : Blk) : (rz σ b X).length = σ.length := by simp [rz]
theorem rz_app (D : b < σ.length) (L : H) (X : Blk) : rz (σ ++ L) b X = rz σ b X ++ L := List.set_append_left _ _ D
theorem rz_b (D : b < σ.length) (X : Blk) : (rz σ b X)[b]? = some X := List.getElem?_set_self D
theorem rz_bL (D : b < σ.length) (L : H) (X : Blk) : (rz σ b X ++ L)[b]? = some X := by
  rw [List.getElem?_append_left (by simpa using D), rz_b D]
theorem rz_sb (X Z : Blk) : (rz σ b X).set b Z = rz σ b Z := by unfold rz; rw [List.set_set]
theorem rz_sbL (D : b < σ.length) (L : H) (X Z : Blk) : (rz σ b X ++ L).set b Z = rz σ b Z ++ L := by
  rw [List.set_append_left _ _ (by simpa using D), rz_sb]
theorem rz_g0 (x : Blk) (L : H) (X : Blk) : (rz σ b X ++ x :: L)[σ.length]? = some x := by
  rw [List.getElem?_append_right (by simp), rz_len, Nat.sub_self]; rfl
theorem rz_g (k : Nat) (L : H) (X : Blk) : (rz σ b X ++ L)[σ.length + k]? = L[k]? := by
  rw [List.getElem?_append_right (by simp), rz_len, Nat.add_sub_cancel_left]
theorem rz_s0 (x : Blk) (L : H) (X : Blk) : (rz σ b X ++ L).set σ.length x = rz σ b X ++ L.set 0 x := by
  rw [List.set_append_right _ _ (by simp), rz_len, Nat.sub_self]
theorem rz_s (k : Nat) (x : Blk) (L : H) (X : Blk) : (rz σ b X ++ L).set (σ.length + k) x = rz σ b X ++ L.set k x := by
  rw [List.set_append_right _ _ (by simp), rz_len, Nat.add_sub_cancel_left]
theorem rz_lt (D : b < σ.length) (L : H) : b < (σ ++ L).length := by simp; omega
theorem rz_ok (D : b < σ.length) {X X' : Blk} (h : H.ok (rz σ b X)) (hx : ∀ cs tg, X' = .cells cs tg → ∀ x ∈ cs, V.low σ.length x) : H.ok (rz σ b X') := by
  intro B hB cs tg hc x hxm
  rw [rz_len]
  obtain ⟨i, hi, rfl⟩ := List.getElem_of_mem hB
  have hi' : i < σ.length := by simpa using hi
  have hg : (rz σ b X')[i]? = some (.cells cs tg) := by rw [List.getElem?_eq_getElem hi, hc]
  by_cases hb : i = b
  · subst hb
    rw [rz_b D] at hg
    injection hg with hg
    exact hx cs tg hg x hxm
  · have e : (rz σ b X)[i]? = some (.cells cs tg) := by
      rw [← hg]
      unfold rz
      rw [List.getElem?_set_ne (fun e => hb e.symm), List.getElem?_set_ne (fun e => hb e.symm)]
    have := h (.cells cs tg) (List.mem_of_getElem? e) cs tg rfl x hxm
    rwa [rz_len] at this
theorem rzA (D : b < σ.length) : (∀ X : Blk, (rz σ b X)[b]? = some X) ∧ (∀ (L : H) (X : Blk), (rz σ b X ++ L)[b]? = some X) ∧ (∀ (L : H) (X Z : Blk), (rz σ b X ++ L).set b Z = rz σ b Z ++ L) ∧ (∀ (L : H) (X : Blk), rz (σ ++ L) b X = rz σ b X ++ L) := ⟨rz_b D, rz_bL D, rz_sbL D, rz_app D⟩
theorem DC.lift1 {P : Program} {w0 : World} {f : FuncId} {args : List V} {L : H} {X X' : Blk} {d : V} (D : b < σ.length) (h : b < (σ ++ L).length → DC P w0 f args (rz (σ ++ L) b X) (Same d (rz (σ ++ L) b X'))) : DC P w0 f args (rz σ b X ++ L) (Same d (rz σ b X' ++ L)) := by rw [← rz_app D, ← rz_app D]; exact h (rz_lt D L)
theorem DC.lift1R {P : Program} {w0 : World} {f : FuncId} {args : List V} {L : H} {X : Blk} {R : V → H → Prop} (D : b < σ.length) (h : b < (σ ++ L).length → DC P w0 f args (rz (σ ++ L) b X) R) : DC P w0 f args (rz σ b X ++ L) R := by rw [← rz_app D]; exact h (rz_lt D L)
end
section
variable {P : Program} {w0 : World} {σ : H}
def FinN (r : List ResV) (R : V → H → Prop) (s : St) : Prop := ∃ vs d, resEval s r = some vs ∧ V.wk (resV vs) d ∧ R d s.σ
theorem DC.of_codeN {f : FuncId} {fn : Func} {x : AC} {r : List ResV} {args : List V} {R : V → H → Prop} (hm : P.follows .mixedOrders = true) (hf : P.funcs[f]? = some fn) (hb : fn.body = some (fn.body.getD .skip)) (htr : tr P fn.ntmps (fn.body.getD .skip) = some x)
    (hres : trRes P fn.results.toList = some r) (hargs : args.length ≤ fn.ntmps) (hen : Enters P f) (hW : H.ok σ → (∀ x ∈ args, V.Sz x) → W P w0 σ.length (FinN r R) [.code x] ⟨argEnv args, σ⟩) : DC P w0 f args σ R := by
  refine ⟨hen, fun κ w vs hrep hfit => ?_⟩
  refine calls_of_wp hf hb ?_
  have hR : Rel w0 κ fn.ntmps κ ⟨argEnv args, σ⟩ { tmps := vs.toArray ++ Array.replicate (fn.ntmps - vs.toArray.size) undef, defers := [] } w :=
    ⟨hrep, argEnv_ok hfit _, by simp [hfit.1]; omega, rfl, K.le_refl κ⟩
  have hfin : ∀ s κ' a w, Rel w0 κ fn.ntmps κ' s a w → FinN r R s → a.defers = [] ∧ ∃ v, (results fn a.tmps).run P w = .ok v w ∧ ∃ v' d σ' κ'', Ending.returned v = .returned v' ∧ R d σ' ∧ κ.le κ'' ∧ Rep w0 κ'' σ' w ∧ RV κ'' d v' := by
    rintro s κ' a w hR' ⟨vs, d, h1, h2, h3⟩
    obtain ⟨v, k1, k2⟩ := results_ok hR' hres h1
    exact ⟨hR'.defers, v, k1, v, d, s.σ, κ', rfl, h3, hR'.le, hR'.rep, k2.wk h2⟩
  refine wp_mono (code_sound (n0 := σ.length) hrep.n hm (fn.body.getD .skip) x htr (hW hrep.ok hfit.sz) hR) ?_
  rintro e a w' ⟨s, κ', hR', hs⟩
  cases e with
  | normal =>
    obtain ⟨t, hl, hq⟩ := W.inv_done hs
    obtain ⟨κ2, hR2⟩ := hl w0 κ fn.ntmps κ' a w' hrep.n hR'
    exact hfin t κ2 a w' hR2 hq
  | ret => exact hfin s κ' a w' hR' hs
  | exit id => obtain ⟨k', hp, _⟩ := hs; cases hp
  | goto l => exact hs.elim
  | panic ch => exact hs.elim
  | outgrown => exact hs.elim
theorem CodeIs.goN {f : FuncId} {n : Nat} {fn : Func} {x : AC} {r : List ResV} (K : CodeIs P f n fn x r) {args : List V} {R : V → H → Prop} (ha : args.length = n) (h : H.ok σ → (∀ x ∈ args, V.Sz x) → W P w0 σ.length (FinN r R) [.code x] ⟨argEnv args, σ⟩) : DC P w0 f args σ R :=
  DC.of_codeN K.hm K.hf K.hb K.htr K.hres (by rw [ha]; exact K.hn) K.en h
end
end Go.Lamb
namespace Go.Lamb
open Go Go.RowKit

structure OpT where
  name : List UInt8
  prec : Int
  fix : Int
  deriving DecidableEq, Inhabited
def findL (l : List OpT) (name : List UInt8) : Option OpT := l.find? (·.name == name)
inductive Pre where
  | mk (k : Int) (name : List UInt8) (n : Int) (l : List Pre) (pos : Int)
  deriving Inhabited
def Pre.k : Pre → Int | .mk k _ _ _ _ => k
def Pre.name : Pre → List UInt8 | .mk _ s _ _ _ => s
def Pre.n : Pre → Int | .mk _ _ n _ _ => n
def Pre.l : Pre → List Pre | .mk _ _ _ l _ => l
def Pre.pos : Pre → Int | .mk _ _ _ _ a => a
def Pre.none : Pre := .mk 0 [] 0 [] 0
def Pre.app (a b : Pre) (pos : Int) : Pre := .mk 3 [] 0 [a, b] pos

def lastPos (t : List Tok) : Int := (t.getLast?.map (·.pos)).getD 0
def tokL (t : List Tok) (i : Nat) : Tok := (t[i]?).getD ⟨0, [], 0, lastPos t⟩
def opOf (l : List OpT) (t : Tok) : Option OpT := if t.kind = 1 ∨ t.kind = 4 then findL l t.text else none
def beginsL (l : List OpT) (t : Tok) : Bool := if t.kind = 1 ∨ t.kind = 4 then (opOf l t).isNone else t.kind = 2 ∨ t.kind = 3 ∨ t.kind = 5
def lamAt (t : List Tok) (i : Nat) : Bool := ((tokL t i).kind = 1 ∨ (tokL t i).kind = 2) ∧ (tokL t (i + 1)).kind = 8
def besideL (a b : OpT) (fix : Int) : Bool := b.prec > a.prec ∨ (b.prec = a.prec ∧ a.fix = fix ∧ b.fix = fix)

structure Bad where
  e : Int
  pos : Int
  deriving DecidableEq
structure Made where
  p : Pre
  by_ : Option (OpT × Int)
def clashL (o : OpT) (m : Made) : Bool := match m.by_ with
  | none => false
  | some (b, _) => !besideL o b 1
def applyL (o : OpT) (pos : Int) (a b : Pre) : Pre := Pre.app (Pre.app (.mk 0 o.name 0 [] pos) a pos) b pos
def nextL (o : OpT) : Int := if o.fix = 2 then o.prec else IntKind.i64.wrap (o.prec + 1)

mutual
def atomF : Nat → List OpT → List Tok → Nat → Nat → Option (Except Bad (Pre × Nat))
  | 0, _, _, _, _ => none
  | f + 1, l, t, depth, i =>
    let x := tokL t i
    if beginsL l x = false then some (.error ⟨30, x.pos⟩)
    else if x.kind = 5 then
      let y := tokL t (i + 1)
      if (opOf l y).isSome ∧ (tokL t (i + 2)).kind = 6 then some (.ok (.mk 0 y.text 0 [] y.pos, i + 3))
      else if 200 ≤ depth then some (.error ⟨31, x.pos⟩)
      else match exprF f l t 0 (depth + 1) (i + 1) with
        | none => none
        | some (.error b) => some (.error b)
        | some (.ok (m, j)) => if (tokL t j).kind = 6 then some (.ok (m.p, j + 1)) else some (.error ⟨30, (tokL t j).pos⟩)
    else if x.kind = 3 then some (.ok (.mk 2 [] x.n [] x.pos, i + 1))
    else if x.kind ≠ 4 ∧ (tokL t (i + 1)).kind = 8 then
      if 200 ≤ depth then some (.error ⟨31, x.pos⟩)
      else match exprF f l t 0 (depth + 1) (i + 2) with
        | none => none
        | some (.error b) => some (.error b)
        | some (.ok (m, j)) => some (.ok (.mk 4 x.text 0 [m.p] x.pos, j))
    else some (.ok (.mk (if x.kind = 2 then 1 else 0) x.text 0 [] x.pos, i + 1))
def argsF : Nat → List OpT → List Tok → Nat → Nat → Pre → Int → Bool → Option (Except Bad (Pre × Nat))
  | 0, _, _, _, _, _, _, _ => none
  | f + 1, l, t, depth, i, p, pos, last =>
    if last = true ∨ beginsL l (tokL t i) = false then some (.ok (p, i))
    else match atomF f l t depth i with
      | none => none
      | some (.error b) => some (.error b)
      | some (.ok (q, j)) => argsF f l t depth j (Pre.app p q pos) pos (lamAt t i)
def exprF : Nat → List OpT → List Tok → Int → Nat → Nat → Option (Except Bad (Made × Nat))
  | 0, _, _, _, _, _ => none
  | f + 1, l, t, least, depth, i =>
    match atomF f l t depth i with
    | none => none
    | some (.error b) => some (.error b)
    | some (.ok (p, j)) => match argsF f l t depth j p p.pos (lamAt t i) with
      | none => none
      | some (.error b) => some (.error b)
      | some (.ok (q, k)) => chainF f l t least depth k ⟨q, none⟩
def chainF : Nat → List OpT → List Tok → Int → Nat → Nat → Made → Option (Except Bad (Made × Nat))
  | 0, _, _, _, _, _, _ => none
  | f + 1, l, t, least, depth, i, m =>
    match opOf l (tokL t i) with
    | none => some (.ok (m, i))
    | some o =>
      if o.prec < least then some (.ok (m, i))
      else if clashL o m = true then some (.error ⟨32, (tokL t i).pos⟩)
      else if 200 ≤ depth then some (.error ⟨31, (tokL t i).pos⟩)
      else match exprF f l t (nextL o) (depth + 1) (i + 1) with
        | none => none
        | some (.error b) => some (.error b)
        | some (.ok (r, j)) => match r.by_ with
          | some (b, pos) => if besideL o b 2 = true then chainF f l t least depth j ⟨applyL o (tokL t i).pos m.p r.p, some (o, (tokL t i).pos)⟩ else some (.error ⟨32, pos⟩)
          | none => chainF f l t least depth j ⟨applyL o (tokL t i).pos m.p r.p, some (o, (tokL t i).pos)⟩
end

theorem fuel_more : ∀ (f : Nat),
    (∀ l t depth i r, atomF f l t depth i = some r → atomF (f + 1) l t depth i = some r) ∧
    (∀ l t depth i p pos last r, argsF f l t depth i p pos last = some r → argsF (f + 1) l t depth i p pos last = some r) ∧
    (∀ l t least depth i r, exprF f l t least depth i = some r → exprF (f + 1) l t least depth i = some r) ∧
    (∀ l t least depth i m r, chainF f l t least depth i m = some r → chainF (f + 1) l t least depth i m = some r)
  | 0 => ⟨fun _ _ _ _ _ h => by simp [atomF] at h, fun _ _ _ _ _ _ _ _ h => by simp [argsF] at h, fun _ _ _ _ _ _ h => by simp [exprF] at h, fun _ _ _ _ _ _ _ h => by simp [chainF] at h⟩
  | f + 1 => by
    obtain ⟨h1, h2, h3, h4⟩ := fuel_more f
    refine ⟨fun l t depth i r h => ?_, fun l t depth i p pos last r h => ?_, fun l t least depth i r h => ?_, fun l t least depth i m r h => ?_⟩
    · rw [atomF] at h ⊢
      simp only at h ⊢
      split at h
      · rename_i c; rw [if_pos c]; exact h
      · rename_i c
        rw [if_neg c]
        split at h
        · rename_i c
          rw [if_pos c]
          split at h
          · rename_i c; rw [if_pos c]; exact h
          · rename_i c
            rw [if_neg c]
            split at h
            · rename_i c; rw [if_pos c]; exact h
            · rename_i c
              rw [if_neg c]
              cases he : exprF f l t 0 (depth + 1) (i + 1) with
              | none => rw [he] at h; cases h
              | some x => rw [he] at h; rw [h3 _ _ _ _ _ _ he]; exact h
        · rename_i c
          rw [if_neg c]
          split at h
          · rename_i c; rw [if_pos c]; exact h
          · rename_i c
            rw [if_neg c]
            split at h
            · rename_i c
              rw [if_pos c]
              split at h
              · rename_i c; rw [if_pos c]; exact h
              · rename_i c
                rw [if_neg c]
                cases he : exprF f l t 0 (depth + 1) (i + 2) with
                | none => rw [he] at h; cases h
                | some x => rw [he] at h; rw [h3 _ _ _ _ _ _ he]; exact h
            · rename_i c; rw [if_neg c]; exact h
    · rw [argsF] at h ⊢
      split at h
      · rename_i c; rw [if_pos c]; exact h
      · rename_i c
        rw [if_neg c]
        cases he : atomF f l t depth i with
        | none => rw [he] at h; cases h
        | some x =>
          rw [he] at h; rw [h1 _ _ _ _ _ he]
          cases x with
          | error b => exact h
          | ok q => exact h2 _ _ _ _ _ _ _ _ h
    · rw [exprF] at h ⊢
      cases he : atomF f l t depth i with
      | none => rw [he] at h; cases h
      | some x =>
        rw [he] at h; rw [h1 _ _ _ _ _ he]
        cases x with
        | error b => exact h
        | ok q =>
          simp only at h ⊢
          cases hg : argsF f l t depth q.2 q.1 q.1.pos (lamAt t i) with
          | none => rw [hg] at h; cases h
          | some y =>
            rw [hg] at h; rw [h2 _ _ _ _ _ _ _ _ hg]
            cases y with
            | error b => exact h
            | ok z => exact h4 _ _ _ _ _ _ _ h
    · rw [chainF] at h ⊢
      cases ho : opOf l (tokL t i) with
      | none => rw [ho] at h; exact h
      | some o =>
        rw [ho] at h
        simp only at h ⊢
        split at h
        · rename_i c; rw [if_pos c]; exact h
        · rename_i c
          rw [if_neg c]
          split at h
          · rename_i c; rw [if_pos c]; exact h
          · rename_i c
            rw [if_neg c]
            split at h
            · rename_i c; rw [if_pos c]; exact h
            · rename_i c
              rw [if_neg c]
              cases he : exprF f l t (nextL o) (depth + 1) (i + 1) with
              | none => rw [he] at h; cases h
              | some x =>
                rw [he] at h; rw [h3 _ _ _ _ _ _ he]
                cases x with
                | error b => exact h
                | ok q =>
                  simp only at h ⊢
                  cases hb : q.1.by_ with
                  | none => rw [hb] at h; exact h4 _ _ _ _ _ _ _ h
                  | some y =>
                    rw [hb] at h
                    simp only at h ⊢
                    split at h
                    · rename_i c; rw [if_pos c]; exact h4 _ _ _ _ _ _ _ h
                    · rename_i c; rw [if_neg c]; exact h
theorem fuel_le {f g : Nat} (hfg : f ≤ g) :
    (∀ l t depth i r, atomF f l t depth i = some r → atomF g l t depth i = some r) ∧
    (∀ l t depth i p pos last r, argsF f l t depth i p pos last = some r → argsF g l t depth i p pos last = some r) ∧
    (∀ l t least depth i r, exprF f l t least depth i = some r → exprF g l t least depth i = some r) ∧
    (∀ l t least depth i m r, chainF f l t least depth i m = some r → chainF g l t least depth i m = some r) := by
  induction hfg with
  | refl => exact ⟨fun _ _ _ _ _ h => h, fun _ _ _ _ _ _ _ _ h => h, fun _ _ _ _ _ _ h => h, fun _ _ _ _ _ _ _ h => h⟩
  | step _ ih =>
    obtain ⟨h1, h2, h3, h4⟩ := ih
    obtain ⟨k1, k2, k3, k4⟩ := fuel_more _
    exact ⟨fun _ _ _ _ _ h => k1 _ _ _ _ _ (h1 _ _ _ _ _ h), fun _ _ _ _ _ _ _ _ h => k2 _ _ _ _ _ _ _ _ (h2 _ _ _ _ _ _ _ _ h), fun _ _ _ _ _ _ h => k3 _ _ _ _ _ _ (h3 _ _ _ _ _ _ h), fun _ _ _ _ _ _ _ h => k4 _ _ _ _ _ _ _ (h4 _ _ _ _ _ _ _ h)⟩
def Expr (l : List OpT) (t : List Tok) (least : Int) (depth i : Nat) (r : Except Bad (Made × Nat)) : Prop := ∃ f, exprF f l t least depth i = some r
def Atom (l : List OpT) (t : List Tok) (depth i : Nat) (r : Except Bad (Pre × Nat)) : Prop := ∃ f, atomF f l t depth i = some r
def Args (l : List OpT) (t : List Tok) (depth i : Nat) (p : Pre) (pos : Int) (last : Bool) (r : Except Bad (Pre × Nat)) : Prop := ∃ f, argsF f l t depth i p pos last = some r
def Chain (l : List OpT) (t : List Tok) (least : Int) (depth i : Nat) (m : Made) (r : Except Bad (Made × Nat)) : Prop := ∃ f, chainF f l t least depth i m = some r
theorem Expr.one {l : List OpT} {t : List Tok} {least : Int} {depth i : Nat} {r r' : Except Bad (Made × Nat)} (h : Expr l t least depth i r) (k : Expr l t least depth i r') : r = r' := by
  obtain ⟨f, h⟩ := h
  obtain ⟨g, k⟩ := k
  have h' := (fuel_le (Nat.le_max_left f g)).2.2.1 _ _ _ _ _ _ h
  have k' := (fuel_le (Nat.le_max_right f g)).2.2.1 _ _ _ _ _ _ k
  rw [h'] at k'
  injection k'
end Go.Lamb

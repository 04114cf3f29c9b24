/-
  Plain: how far a walk goes by itself, as functions of which only the equations are known (so that no check unfolds them), and which stand still where a test is not known.
  Plain: short spellings: of codes, of what a walk does again and again.
  Plain: tokens, operators and trees as cells.
-/
import Derived.Test.YtpcmcfajfnpjeaaGreatDoorQJ10
set_option linter.unusedSimpArgs false
set_option linter.unusedVariables false
set_option maxHeartbeats 8000000
set_option maxRecDepth 20000
namespace Go.Lamb
open Go Go.RowKit

/-! ### a region without a drawn order, and what stands around it -/
abbrev AdvK := List It → St → Prop
def advB (K : AdvK) (f : Nat) (k : List It) (s : St) : Prop := K (Lamb.adv f k s).1 (Lamb.adv f k s).2
def advS0 (x : Option (V × H)) (K : AdvK) (f : Nat) (o : AOp) (l : List AOp) (k : List It) (s : St) : Prop := match x with
  | some (v, σ') => advB K f (.ops l :: k) ⟨s.ρ.put o.dst v, σ'⟩
  | none => K (.ops (o :: l) :: k) s
def advG0 (x : Option Bool) (K : AdvK) (f : Nat) (o : AOp) (l : List AOp) (k : List It) (s : St) : Prop := match x with
  | some true => advS0 (step s.ρ s.σ o.ins) K f o l k s
  | some false => advB K f (.ops l :: k) ⟨s.ρ.put o.dst .void, s.σ⟩
  | none => K (.ops (o :: l) :: k) s
theorem adv_pack : Nonempty { g : (AdvK → Nat → List It → St → Prop) × (Option Bool → AdvK → Nat → AOp → List AOp → List It → St → Prop) × (Option (V × H) → AdvK → Nat → AOp → List AOp → List It → St → Prop) // g = (advB, advG0, advS0) } := ⟨⟨_, rfl⟩⟩
noncomputable def advO : AdvK → Nat → List It → St → Prop := (Classical.choice adv_pack).1.1
noncomputable def advG : Option Bool → AdvK → Nat → AOp → List AOp → List It → St → Prop := (Classical.choice adv_pack).1.2.1
noncomputable def advS : Option (V × H) → AdvK → Nat → AOp → List AOp → List It → St → Prop := (Classical.choice adv_pack).1.2.2
theorem advO_eq : advO = advB := by unfold advO; rw [(Classical.choice adv_pack).2]
theorem advG_eq : advG = advG0 := by unfold advG; rw [(Classical.choice adv_pack).2]
theorem advS_eq : advS = advS0 := by unfold advS; rw [(Classical.choice adv_pack).2]
section
variable (K : AdvK) (f : Nat) (k : List It) (s : St)
theorem advO_skip : advO K (f + 1) (.code .skip :: k) s = advO K f k s := by rw [advO_eq]; rfl
theorem advO_reg (l : List AOp) : advO K (f + 1) (.code (.reg l) :: k) s = advO K f (.ops l :: k) s := by rw [advO_eq]; rfl
theorem advO_seq (a b : AC) : advO K (f + 1) (.code (.seq a b) :: k) s = advO K f (.code a :: .code b :: k) s := by rw [advO_eq]; rfl
theorem advO_block (id : Nat) (c : AC) : advO K (f + 1) (.code (.block id c) :: k) s = advO K f (.code c :: .endb id :: k) s := by rw [advO_eq]; rfl
theorem advO_exit (id : Nat) : advO K (f + 1) (.code (.exit id) :: k) s = (match popTo id k with
        | some k' => advO K f k' s
        | none => K (.code (.exit id) :: k) s) := by
  rw [advO_eq]
  unfold advB
  simp only [Lamb.adv]
  generalize popTo id k = x
  cases x <;> rfl
theorem advO_endb (id : Nat) : advO K (f + 1) (.endb id :: k) s = advO K f k s := by rw [advO_eq]; rfl
theorem advO_opsNil : advO K (f + 1) (.ops [] :: k) s = advO K f k s := by rw [advO_eq]; rfl
theorem advO_ops (o : AOp) (l : List AOp) : advO K (f + 1) (.ops (o :: l) :: k) s = advG (wantedV s.ρ o.guard) K f o l k s := by
  rw [advO_eq, advG_eq]
  unfold advB advG0 advS0
  simp only [Lamb.adv]
  generalize wantedV s.ρ o.guard = x
  generalize step s.ρ s.σ o.ins = y
  rcases x with _ | b
  · rfl
  · cases b
    · rfl
    · rcases y with _ | ⟨v, τ⟩ <;> rfl
theorem advG_yes (o : AOp) (l : List AOp) : advG (some true) K f o l k s = advS (step s.ρ s.σ o.ins) K f o l k s := by rw [advG_eq, advS_eq]; rfl
theorem advG_no (o : AOp) (l : List AOp) : advG (some false) K f o l k s = advO K f (.ops l :: k) ⟨s.ρ.put o.dst .void, s.σ⟩ := by rw [advG_eq, advO_eq]; rfl
theorem advG_none (o : AOp) (l : List AOp) : advG none K f o l k s = K (.ops (o :: l) :: k) s := by rw [advG_eq]; rfl
theorem advS_some (v : V) (σ' : H) (o : AOp) (l : List AOp) : advS (some (v, σ')) K f o l k s = advO K f (.ops l :: k) ⟨s.ρ.put o.dst v, σ'⟩ := by rw [advS_eq, advO_eq]; rfl
theorem advS_none (o : AOp) (l : List AOp) : advS none K f o l k s = K (.ops (o :: l) :: k) s := by rw [advS_eq]; rfl
theorem advO_cond (c : Opd) (x y : AC) : advO K (f + 1) (.code (.cond c x y) :: k) s = K (.code (.cond c x y) :: k) s := by rw [advO_eq]; rfl
theorem advO_loop (c : AC) : advO K (f + 1) (.code (.loop c) :: k) s = K (.code (.loop c) :: k) s := by rw [advO_eq]; rfl
theorem advO_dreg (l : List AOp) (e : List EOp) : advO K (f + 1) (.code (.dreg l e) :: k) s = K (.code (.dreg l e) :: k) s := by rw [advO_eq]; rfl
theorem advO_ret : advO K (f + 1) (.code .ret :: k) s = K (.code .ret :: k) s := by rw [advO_eq]; rfl
theorem advO_bad : advO K (f + 1) (.code .bad :: k) s = K (.code .bad :: k) s := by rw [advO_eq]; rfl
theorem advO_inv (I : St → Prop) : advO K (f + 1) (.inv I :: k) s = K (.inv I :: k) s := by rw [advO_eq]; rfl
theorem advO_nil : advO K (f + 1) [] s = K [] s := by rw [advO_eq]; rfl
theorem advO_zero : advO K 0 k s = K k s := by rw [advO_eq]; rfl
theorem advG_if {b : Bool} {o : AOp} {l : List AOp} (h1 : b = true → advG (some true) K f o l k s) (h2 : b = false → advG (some false) K f o l k s) : advG (some b) K f o l k s := by
  cases b
  · exact h2 rfl
  · exact h1 rfl
theorem advG_ifn {b : Bool} {o : AOp} {l : List AOp} (h1 : b = true → advG (some false) K f o l k s) (h2 : b = false → advG (some true) K f o l k s) : advG (some (!b)) K f o l k s := by
  cases b
  · exact h2 rfl
  · exact h1 rfl
end
theorem W.testn {P : Program} {w0 : World} {n0 : Nat} {Q : St → Prop} {c : Opd} {x y : AC} {k : List It} {s : St} {t : Bool} (hc : c.ev s.ρ = .c (.bool (!t))) (h1 : t = true → W P w0 n0 Q (.code y :: k) s) (h2 : t = false → W P w0 n0 Q (.code x :: k) s) : W P w0 n0 Q (.code (.cond c x y) :: k) s := by
  cases t
  · exact .cond hc (fun _ => h2 rfl) (fun e => by cases e)
  · exact .cond hc (fun e => by cases e) (fun _ => h1 rfl)
theorem W.advO {P : Program} {w0 : World} {n0 : Nat} {Q : St → Prop} (f : Nat) (k : List It) (s : St) (h : Lamb.advO (W P w0 n0 Q) f k s) : W P w0 n0 Q k s := W.adv f k s (by rw [advO_eq] at h; exact h)

/-! ### a drawn region, in the early order -/
abbrev AdvE := List EOp → Env → H → List H → Prop
def pLS0 (x : Option (V × H)) (K : AdvE) (o : AOp) (lo : Nat) (l : List EOp) (ρ : Env) (σ : H) (past : List H) : Prop := match x with
  | some (v, σ1) => Lamb.advP K l (ρ.put o.dst v) σ1 (σ :: past)
  | none => K (⟨o, true, lo⟩ :: l) ρ σ past
def pL0 (x : Option Bool) (K : AdvE) (o : AOp) (lo : Nat) (l : List EOp) (ρ : Env) (σ : H) (past : List H) : Prop := match x with
  | some true => pLS0 (step ρ σ o.ins) K o lo l ρ σ past
  | some false => Lamb.advP K l (ρ.put o.dst .void) σ (σ :: past)
  | none => K (⟨o, true, lo⟩ :: l) ρ σ past
def pQS0 (q : Bool) (x : Option (V × H)) (K : AdvE) (o : AOp) (lo : Nat) (l : List EOp) (ρ : Env) (σ : H) (past : List H) : Prop := match q with
  | true => match x with
    | some (v, _) => (∀ τ ∈ past.take (past.length - lo), Lamb.step ρ τ o.ins = some (v, τ)) ∧ Lamb.advP K l (ρ.put o.dst v) σ past
    | none => K (⟨o, false, lo⟩ :: l) ρ σ past
  | false => K (⟨o, false, lo⟩ :: l) ρ σ past
def pQ0 (x : Option Bool) (K : AdvE) (o : AOp) (lo : Nat) (l : List EOp) (ρ : Env) (σ : H) (past : List H) : Prop := match x with
  | some true => pQS0 o.ins.quiet (step ρ σ o.ins) K o lo l ρ σ past
  | some false => Lamb.advP K l (ρ.put o.dst .void) σ past
  | none => K (⟨o, false, lo⟩ :: l) ρ σ past
theorem advP_pack : Nonempty { g : (AdvE → AdvE) × (Option (V × H) → AdvE → AOp → Nat → AdvE) × (Option Bool → AdvE → AOp → Nat → AdvE) × (Bool → Option (V × H) → AdvE → AOp → Nat → AdvE) × (Option Bool → AdvE → AOp → Nat → AdvE) // g = (Lamb.advP, pLS0, pL0, pQS0, pQ0) } := ⟨⟨_, rfl⟩⟩
noncomputable def advPO : AdvE → AdvE := (Classical.choice advP_pack).1.1
noncomputable def pLS : Option (V × H) → AdvE → AOp → Nat → AdvE := (Classical.choice advP_pack).1.2.1
noncomputable def pL : Option Bool → AdvE → AOp → Nat → AdvE := (Classical.choice advP_pack).1.2.2.1
noncomputable def pQS : Bool → Option (V × H) → AdvE → AOp → Nat → AdvE := (Classical.choice advP_pack).1.2.2.2.1
noncomputable def pQ : Option Bool → AdvE → AOp → Nat → AdvE := (Classical.choice advP_pack).1.2.2.2.2
theorem advPO_eq : advPO = Lamb.advP := by unfold advPO; rw [(Classical.choice advP_pack).2]
theorem pLS_eq : pLS = pLS0 := by unfold pLS; rw [(Classical.choice advP_pack).2]
theorem pL_eq : pL = pL0 := by unfold pL; rw [(Classical.choice advP_pack).2]
theorem pQS_eq : pQS = pQS0 := by unfold pQS; rw [(Classical.choice advP_pack).2]
theorem pQ_eq : pQ = pQ0 := by unfold pQ; rw [(Classical.choice advP_pack).2]
section
variable (K : AdvE) (o : AOp) (lo : Nat) (l : List EOp) (ρ : Env) (σ : H) (past : List H)
theorem advPO_nil : advPO K [] ρ σ past = K [] ρ σ past := by rw [advPO_eq]; rfl
theorem advPO_loud : advPO K (⟨o, true, lo⟩ :: l) ρ σ past = pL (wantedV ρ o.guard) K o lo l ρ σ past := by
  rw [advPO_eq, pL_eq]
  unfold pL0 pLS0
  simp only [Lamb.advP] <;> rfl
theorem pL_yes : pL (some true) K o lo l ρ σ past = pLS (step ρ σ o.ins) K o lo l ρ σ past := by rw [pL_eq, pLS_eq]; rfl
theorem pL_no : pL (some false) K o lo l ρ σ past = advPO K l (ρ.put o.dst .void) σ (σ :: past) := by rw [pL_eq, advPO_eq]; rfl
theorem pLS_some (v : V) (σ1 : H) : pLS (some (v, σ1)) K o lo l ρ σ past = advPO K l (ρ.put o.dst v) σ1 (σ :: past) := by rw [pLS_eq, advPO_eq]; rfl
theorem pLS_none : pLS none K o lo l ρ σ past = K (⟨o, true, lo⟩ :: l) ρ σ past := by rw [pLS_eq]; rfl
theorem advPO_quiet : advPO K (⟨o, false, lo⟩ :: l) ρ σ past = pQ (wantedV ρ o.guard) K o lo l ρ σ past := by
  rw [advPO_eq, pQ_eq]
  unfold pQ0 pQS0
  simp only [Lamb.advP] <;> rfl
theorem pQ_yes : pQ (some true) K o lo l ρ σ past = pQS o.ins.quiet (step ρ σ o.ins) K o lo l ρ σ past := by rw [pQ_eq, pQS_eq]; rfl
theorem pQ_no : pQ (some false) K o lo l ρ σ past = advPO K l (ρ.put o.dst .void) σ past := by rw [pQ_eq, advPO_eq]; rfl
theorem pQS_some (v : V) (σ1 : H) : pQS true (some (v, σ1)) K o lo l ρ σ past = ((∀ τ ∈ past.take (past.length - lo), Lamb.step ρ τ o.ins = some (v, τ)) ∧ advPO K l (ρ.put o.dst v) σ past) := by rw [pQS_eq, advPO_eq]; rfl
theorem pQS_loud (x : Option (V × H)) : pQS false x K o lo l ρ σ past = K (⟨o, false, lo⟩ :: l) ρ σ past := by rw [pQS_eq]; rfl
end
/-! ### a drawn region, in the order of the text -/
abbrev AdvC := List AOp → Env → Prop
def advC0 (K : AdvC) (σ : H) (l : List AOp) (ρ : Env) : Prop := K (Lamb.advC σ l ρ).1 (Lamb.advC σ l ρ).2
def cS0 (q : Bool) (x : Option (V × H)) (K : AdvC) (σ : H) (o : AOp) (l : List AOp) (ρ : Env) : Prop := match q with
  | true => match x with
    | some (v, _) => advC0 K σ l (ρ.put o.dst v)
    | none => K (o :: l) ρ
  | false => K (o :: l) ρ
def cG0 (x : Option Bool) (K : AdvC) (σ : H) (o : AOp) (l : List AOp) (ρ : Env) : Prop := match x with
  | some true => cS0 o.ins.quiet (step ρ σ o.ins) K σ o l ρ
  | some false => advC0 K σ l (ρ.put o.dst .void)
  | none => K (o :: l) ρ
theorem advC_pack : Nonempty { g : (AdvC → H → List AOp → Env → Prop) × (Bool → Option (V × H) → AdvC → H → AOp → List AOp → Env → Prop) × (Option Bool → AdvC → H → AOp → List AOp → Env → Prop) // g = (advC0, cS0, cG0) } := ⟨⟨_, rfl⟩⟩
noncomputable def advCO : AdvC → H → List AOp → Env → Prop := (Classical.choice advC_pack).1.1
noncomputable def cS : Bool → Option (V × H) → AdvC → H → AOp → List AOp → Env → Prop := (Classical.choice advC_pack).1.2.1
noncomputable def cG : Option Bool → AdvC → H → AOp → List AOp → Env → Prop := (Classical.choice advC_pack).1.2.2
theorem advCO_eq : advCO = advC0 := by unfold advCO; rw [(Classical.choice advC_pack).2]
theorem cS_eq : cS = cS0 := by unfold cS; rw [(Classical.choice advC_pack).2]
theorem cG_eq : cG = cG0 := by unfold cG; rw [(Classical.choice advC_pack).2]
section
variable (K : AdvC) (σ : H) (o : AOp) (l : List AOp) (ρ : Env)
theorem advCO_nil : advCO K σ [] ρ = K [] ρ := by rw [advCO_eq]; rfl
theorem advCO_cons : advCO K σ (o :: l) ρ = cG (wantedV ρ o.guard) K σ o l ρ := by
  rw [advCO_eq, cG_eq]
  unfold advC0 cG0 cS0 advC0
  simp only [Lamb.advC]
  generalize wantedV ρ o.guard = x
  generalize step ρ σ o.ins = y
  generalize o.ins.quiet = q
  rcases x with _ | b
  · rfl
  · cases b
    · rfl
    · cases q
      · rfl
      · rcases y with _ | ⟨v, τ⟩ <;> rfl
theorem cG_yes : cG (some true) K σ o l ρ = cS o.ins.quiet (step ρ σ o.ins) K σ o l ρ := by rw [cG_eq, cS_eq]; rfl
theorem cG_no : cG (some false) K σ o l ρ = advCO K σ l (ρ.put o.dst .void) := by rw [cG_eq, advCO_eq]; rfl
theorem cS_some (v : V) (σ1 : H) : cS true (some (v, σ1)) K σ o l ρ = advCO K σ l (ρ.put o.dst v) := by rw [cS_eq, advCO_eq]; rfl
theorem cS_loud (x : Option (V × H)) : cS false x K σ o l ρ = K (o :: l) ρ := by rw [cS_eq]; rfl
end
section
variable {P : Program} {w0 : World}
theorem CanonE.advPO {ρ' : Env} {σ' : H} {past' : List H} (l : List EOp) (ρ : Env) (σ : H) (past : List H) (h : Lamb.advPO (fun l ρ σ past => CanonE P w0 l ρ σ past ρ' σ' past') l ρ σ past) : CanonE P w0 l ρ σ past ρ' σ' past' := CanonE.advP l ρ σ past (by rw [← advPO_eq]; exact h)
theorem Canon.advCO {σ : H} {ρ' : Env} (l : List AOp) (ρ : Env) (h : Lamb.advCO (fun l ρ => Canon P w0 σ l ρ ρ') σ l ρ) : Canon P w0 σ l ρ ρ' := Canon.adv l ρ (by rw [advCO_eq] at h; exact h)
end
theorem DC.weakA {P : Program} {w0 : World} {f : FuncId} {args args' : List V} {σ : H} {R : V → H → Prop} (h : DC P w0 f args' σ R) (hw : V.wk (.agg args) (.agg args')) : DC P w0 f args σ R :=
  ⟨h.enters, fun κ w vs hrep hf => h.run κ w vs hrep (by
    have h1 : RV κ (.agg args) (.agg vs.toArray) := .agg hf.1 hf.2
    have h2 := RV.wk hw h1
    generalize hx : vs.toArray = x at h2
    cases h2 with
    | agg k1 k2 =>
      have : vs = _ := List.toArray_inj hx
      subst this
      exact ⟨k1, k2⟩)⟩
theorem W.call1w {P : Program} {w0 : World} {n0 : Nat} {Q : St → Prop} {d : Option Nat} {f : Opd} {as : List Opd} {g : Option (Nat × Bool)} {l : List AOp} {k : List It} {s : St} {fid : FuncId} {caps : List V} {args args' : List V} {v : V} {σ' : H} (hc : DC P w0 fid args' s.σ (Same v σ')) (hg : wantedV s.ρ g = some true) (hf : f.ev s.ρ = .fn fid caps)
    (ha : as.map (·.ev s.ρ) ++ caps = args) (hw : V.wk (.agg args) (.agg args')) (h : W P w0 n0 Q (.ops l :: k) ⟨s.ρ.put d v, σ'⟩) : W P w0 n0 Q (.ops (⟨d, .call f as, g⟩ :: l) :: k) s :=
  W.call1 (hc.weakA hw) hg hf ha h
theorem CanonE.callw {P : Program} {w0 : World} {σ σ' σ1 : H} {past past' : List H} {ρ ρ' : Env} {d : Option Nat} {f : Opd} {as : List Opd} {g : Option (Nat × Bool)} {lo : Nat} {l : List EOp} {fid : FuncId} {caps args args' : List V} {v : V} (hc : DC P w0 fid args' σ (Same v σ1)) (hg : wantedV ρ g = some true) (hf : f.ev ρ = .fn fid caps)
    (ha : as.map (·.ev ρ) ++ caps = args) (hw : V.wk (.agg args) (.agg args')) (h : CanonE P w0 l (ρ.put d v) σ1 (σ :: past) ρ' σ' past') : CanonE P w0 (⟨⟨d, .call f as, g⟩, true, lo⟩ :: l) ρ σ past ρ' σ' past' :=
  CanonE.call (hc.weakA hw) hg hf ha h
theorem wk_bool {a b : Bool} (h : a = b) : V.wk (.c (.bool a)) (.c (.bool b)) := by subst h; exact .rfl _
end Go.Lamb
namespace Go.Lamb
open Go Go.RowKit

abbrev AOp.o (d : Nat) (i : Ins) : AOp := ⟨some d, i, none⟩
abbrev AOp.m (d s : Nat) : AOp := ⟨some d, .mov (.t s), none⟩
abbrev AOp.f (d k s : Nat) : AOp := ⟨some d, .fadd k (.t s), none⟩
abbrev AOp.l (d s : Nat) : AOp := ⟨some d, .load1 (.t s), none⟩
abbrev AOp.d (d n s : Nat) : AOp := ⟨some d, .loadn n (.t s), none⟩
abbrev AOp.n (d s : Nat) : AOp := ⟨some d, .nilck (.t s), none⟩
abbrev AOp.x (d s k : Nat) : AOp := ⟨some d, .ext (.t s) k, none⟩
abbrev AOp.s (n a b : Nat) : AOp := ⟨none, .store n (.t a) (.t b), none⟩
abbrev AOp.k (d f : Nat) (l : List Opd) : AOp := ⟨some d, .call (.k (.fn f [])) l, none⟩
abbrev AOp.y (d : Nat) (i : Ins) (g : Nat) : AOp := ⟨some d, i, some (g, true)⟩
abbrev AOp.z (d : Nat) (i : Ins) (g : Nat) : AOp := ⟨some d, i, some (g, false)⟩
abbrev EOp.q (o : AOp) : EOp := ⟨o, false, 0⟩

structure CodeIs (P : Program) (f : FuncId) (n : Nat) (fn : Func) (x : AC) (r : List ResV) : Prop where
  hm : P.follows .mixedOrders = true
  hf : P.funcs[f]? = some fn
  hb : fn.body = some (fn.body.getD .skip)
  htr : tr P fn.ntmps (fn.body.getD .skip) = some x
  hres : trRes P fn.results.toList = some r
  hn : n ≤ fn.ntmps
  en : Enters P f
theorem CodeIs.auto {P : Program} {f : FuncId} {n : Nat} {fn : Func} {x : AC} {r : List ResV} (hf : P.funcs[f]? = some fn) (hm : P.follows .mixedOrders = true := by kernel_rfl) (hb : fn.body = some (fn.body.getD .skip) := by rfl) (htr : tr P fn.ntmps (fn.body.getD .skip) = some x := by kernel_rfl)
    (hres : trRes P fn.results.toList = some r := by kernel_rfl) (hn : n ≤ fn.ntmps := by decide) (he : (fn.name == "runtime.NumGoroutine") = false := by kernel_rfl) : CodeIs P f n fn x r := ⟨hm, hf, hb, htr, hres, hn, enters_fn hf he hb⟩
theorem CodeIs.go {P : Program} {f : FuncId} {n : Nat} {fn : Func} {x : AC} {r : List ResV} (K : CodeIs P f n fn x r) {w0 : World} {args : List V} {σ : H} {R : V → H → Prop} (ha : args.length = n) (h : H.ok σ → (∀ x ∈ args, V.Sz x) → W P w0 σ.length (Fin r σ.length R) [.code x] ⟨argEnv args, σ⟩) : DC P w0 f args σ R :=
  DC.of_code K.hm K.hf K.hb K.htr K.hres (by rw [ha]; exact K.hn) K.en h
section
variable {P : Program} {w0 : World} {n0 : Nat} {Q : St → Prop}
theorem W.a {k : List It} {s : St} (h : Lamb.advO (W P w0 n0 Q) 5000 k s) : W P w0 n0 Q k s := W.advO 5000 k s h
theorem W.c1 {d : Option Nat} {f : Opd} {as : List Opd} {g : Option (Nat × Bool)} {l : List AOp} {k : List It} {s : St} {fid : FuncId} {caps : List V} {args : List V} {v : V} {σ' : H} (hc : DC P w0 fid args s.σ (Same v σ')) (h : Lamb.advO (W P w0 n0 Q) 5000 (.ops l :: k) ⟨s.ρ.put d v, σ'⟩)
    (hg : wantedV s.ρ g = some true := by rfl) (hf : f.ev s.ρ = .fn fid caps := by rfl) (ha : as.map (·.ev s.ρ) ++ caps = args := by first | rfl | simp) : W P w0 n0 Q (.ops (⟨d, .call f as, g⟩ :: l) :: k) s := W.call1 hc hg hf ha (W.a h)
theorem wk_here {a b : V} (h : V.wk a b := by (repeat' (first | exact Go.Lamb.V.wk.rfl _ | exact Go.Lamb.V.wk.csl _ | exact Go.Lamb.V.wk.osl _ _ | exact Go.Lamb.wk_agg_nil | exact Go.Lamb.wk_tup_nil | refine Go.Lamb.wk_agg_cons ?_ ?_ | refine Go.Lamb.wk_tup_cons ?_ ?_))) : V.wk a b := h
theorem lee_here {a b : Env} (h : LeE a b := by (repeat' (first | exact Go.Lamb.LeE.base _ | (refine Go.Lamb.LeE.put ?_ (by first | exact Go.Lamb.V.wk.rfl _ | exact Go.Lamb.V.wk.osl _ _ | exact Go.Lamb.V.wk.csl _))))) : LeE a b := h
theorem W.c1w {d : Option Nat} {f : Opd} {as : List Opd} {g : Option (Nat × Bool)} {l : List AOp} {k : List It} {s : St} {fid : FuncId} {caps : List V} {args args' : List V} {v : V} {σ' : H} (hc : DC P w0 fid args' s.σ (Same v σ')) (h : Lamb.advO (W P w0 n0 Q) 5000 (.ops l :: k) ⟨s.ρ.put d v, σ'⟩)
    (hg : wantedV s.ρ g = some true := by rfl) (hf : f.ev s.ρ = .fn fid caps := by rfl) (ha : as.map (·.ev s.ρ) ++ caps = args := by rfl) (hw : V.wk (.agg args) (.agg args') := by exact Go.Lamb.wk_here) : W P w0 n0 Q (.ops (⟨d, .call f as, g⟩ :: l) :: k) s := W.call1w hc hg hf ha hw (W.a h)
theorem W.fg {r : List ResV} {k : List It} {s : St} {σ' τ : H} {vs : List V} {d : V} {R : V → H → Prop} (hok : H.ok σ') (h : resEval s r = some vs) (hd : V.wk (resV vs) d) (hR : R d σ') (hn : σ'.length = n0 := by first | rfl | exact List.length_set .. | simp)
    (hl : V.low n0 d := by first | exact .c _ | (simp only [go_sem]; done)) (hσ : s.σ = σ' ++ τ := by first | rfl | exact (List.append_nil _).symm) : W P w0 n0 (Fin r n0 R) (.code .ret :: k) s := W.ret (Fin.gen hok hn h hd hl hσ hR)
theorem W.fs {r : List ResV} {k : List It} {s : St} {σ' τ : H} {vs : List V} {d : V} (hok : H.ok σ') (h : resEval s r = some vs) (hd : V.wk (resV vs) d) (hn : σ'.length = n0 := by first | rfl | exact List.length_set .. | simp)
    (hl : V.low n0 d := by first | exact .c _ | (simp only [go_sem]; done)) (hσ : s.σ = σ' ++ τ := by first | rfl | exact (List.append_nil _).symm) : W P w0 n0 (Fin r n0 (Same d σ')) (.code .ret :: k) s := W.ret (Fin.sameW hok hn h hd hl hσ)
end
end Go.Lamb
namespace Go.Lamb
open Go Go.RowKit

theorem beq_t (b : Bool) : (b == true) = b := by cases b <;> rfl
theorem beq_f (b : Bool) : (b == false) = !b := by cases b <;> rfl
def I (n : Int) : V := .c (.int .i64 n)
def S (l : List UInt8) : V := .c (.str l)
def B (b : Bool) : V := .c (.bool b)
def OpT.cs (o : OpT) : List C := [.str o.name, .int .i64 o.prec, .int .i64 o.fix]
def OpT.v (o : OpT) : V := .agg [.c (.str o.name), .c (.int .i64 o.prec), .c (.int .i64 o.fix)]
def opsC (l : List OpT) : C := .sl (l.map OpT.cs)
def Tok.cs (t : Tok) : List C := [.int .i64 t.kind, .str t.text, .int .i64 t.n, .int .i64 t.pos]
def Tok.v (t : Tok) : V := .agg [.c (.int .i64 t.kind), .c (.str t.text), .c (.int .i64 t.n), .c (.int .i64 t.pos)]
def toksC (l : List Tok) : C := .sl (l.map Tok.cs)
mutual
def Pre.cs : Pre → List C
  | .mk k s n l a => [.int .i64 k, .str s, .int .i64 n, .sl (Pre.rows l), .int .i64 a]
def Pre.rows : List Pre → List (List C)
  | [] => []
  | p :: l => p.cs :: Pre.rows l
end
theorem Pre.rows_map (l : List Pre) : Pre.rows l = l.map Pre.cs := by
  induction l with
  | nil => rfl
  | cons p l ih => simp [Pre.rows, ih]
def Pre.v (p : Pre) : V := .agg [.c (.int .i64 p.k), .c (.str p.name), .c (.int .i64 p.n), .c (.sl (p.l.map Pre.cs)), .c (.int .i64 p.pos)]
theorem Pre.cs_eq (p : Pre) : p.cs = [.int .i64 p.k, .str p.name, .int .i64 p.n, .sl (p.l.map Pre.cs), .int .i64 p.pos] := by
  cases p
  simp [Pre.cs, Pre.k, Pre.name, Pre.n, Pre.l, Pre.pos, Pre.rows_map]
def UpTo {α : Type} (p : α → Bool) (l : List α) (i : Nat) : Prop := ∀ j (hj : j < l.length), j < i → p l[j] = false
def idxI {α : Type} (p : α → Bool) (l : List α) : Int := match l.findIdx? p with
  | some k => k
  | none => -1
theorem idxI_at {α : Type} {p : α → Bool} {l : List α} {i : Nat} (h : UpTo p l i) (hi : i < l.length) (hp : p l[i] = true) : idxI p l = i := by
  unfold idxI
  rw [List.findIdx?_eq_some_iff_getElem.2 ⟨hi, hp, fun j hj => by rw [h j (by omega) hj]; simp⟩]
theorem idxI_none {α : Type} {p : α → Bool} {l : List α} (h : ∀ j (hj : j < l.length), p l[j] = false) : idxI p l = -1 := by
  unfold idxI
  rw [List.findIdx?_eq_none_iff.2 fun x hx => by obtain ⟨j, hj, rfl⟩ := List.getElem_of_mem hx; exact h j hj]
theorem idxI_cases {α : Type} (p : α → Bool) (l : List α) : (idxI p l = -1 ∧ l.find? p = none) ∨ ∃ i, ∃ (hi : i < l.length), idxI p l = (i : Int) ∧ l.find? p = some l[i] := by
  unfold idxI
  cases h : l.findIdx? p with
  | none =>
    left
    rw [List.findIdx?_eq_none_iff] at h
    exact ⟨rfl, List.find?_eq_none.2 fun x hx => by rw [h x hx]; simp⟩
  | some k =>
    right
    obtain ⟨hk, h1, h2⟩ := List.findIdx?_eq_some_iff_getElem.1 h
    refine ⟨k, hk, rfl, ?_⟩
    rw [List.find?_eq_some_iff_getElem]
    exact ⟨h1, k, hk, rfl, fun j hj => by simpa using h2 j hj⟩
theorem idxI_none_iff {α : Type} {p : α → Bool} {l : List α} : idxI p l = -1 ↔ ∀ x ∈ l, p x = false := by
  unfold idxI
  cases h : l.findIdx? p with
  | none => simpa [List.findIdx?_eq_none_iff] using h
  | some k =>
    obtain ⟨hk, h1, _⟩ := List.findIdx?_eq_some_iff_getElem.1 h
    constructor
    · intro e; simp only at e; omega
    · intro e; rw [e _ (List.getElem_mem hk)] at h1; cases h1
def OpT.zero : OpT := ⟨[], 0, 0⟩
def foundV (o : Option OpT) : V := .tup [(o.getD OpT.zero).v, B o.isSome]
theorem find_at {α : Type} {p : α → Bool} {l : List α} {i : Nat} (h : UpTo p l i) (hi : i < l.length) (hp : p l[i] = true) : l.find? p = some l[i] := by
  rw [List.find?_eq_some_iff_getElem]
  exact ⟨hp, i, hi, rfl, fun j hj => by rw [h j (by omega) hj]; rfl⟩
theorem find_no {α : Type} {p : α → Bool} {l : List α} {i : Nat} (h : UpTo p l i) (hi : l.length ≤ i) : l.find? p = none := by
  rw [List.find?_eq_none]
  intro x hx
  obtain ⟨j, hj, rfl⟩ := List.getElem_of_mem hx
  rw [h j hj (by omega)]
  simp
theorem upTo_next {α : Type} {p : α → Bool} {l : List α} {i : Nat} (h : UpTo p l i) (hi : i < l.length) (hp : p l[i] = false) : UpTo p l (i + 1) := fun j hj hji => by
  rcases Nat.lt_succ_iff_lt_or_eq.1 hji with h' | h'
  · exact h j hj h'
  · subst h'; exact hp
theorem upTo_zero {α : Type} {p : α → Bool} {l : List α} : UpTo p l 0 := fun j _ h => absurd h (by omega)
theorem sz_rows {α : Type} {f : α → List C} {l : List α} (h : V.Sz (.c (.sl (l.map f)))) : l.length ≤ 9223372036854775807 := by
  rw [sz_c, sz_sl] at h
  simpa [maxLen] using h.1
theorem wrap_next {i n : Nat} (h : i < n) (hn : n ≤ 9223372036854775807) : IntKind.i64.wrap ((i : Int) + 1) = ((i + 1 : Nat) : Int) := by rw [wrap_in] <;> omega
theorem nat0 (i : Nat) : (0 : Int) ≤ (i : Int) := by omega
theorem natCast0 : ((0 : Nat) : Int) = 0 := rfl
theorem natCast1 : ((1 : Nat) : Int) = 1 := rfl
theorem natCast2 : ((2 : Nat) : Int) = 2 := rfl
theorem k_mk (k : Int) (s : List UInt8) (n : Int) (l : List Pre) (a : Int) : (Pre.mk k s n l a).k = k := rfl
theorem name_mk (k : Int) (s : List UInt8) (n : Int) (l : List Pre) (a : Int) : (Pre.mk k s n l a).name = s := rfl
theorem n_mk (k : Int) (s : List UInt8) (n : Int) (l : List Pre) (a : Int) : (Pre.mk k s n l a).n = n := rfl
theorem l_mk (k : Int) (s : List UInt8) (n : Int) (l : List Pre) (a : Int) : (Pre.mk k s n l a).l = l := rfl
theorem pos_mk (k : Int) (s : List UInt8) (n : Int) (l : List Pre) (a : Int) : (Pre.mk k s n l a).pos = a := rfl
end Go.Lamb

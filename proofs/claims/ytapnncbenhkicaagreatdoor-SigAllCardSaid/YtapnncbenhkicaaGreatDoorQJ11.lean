/-
  Plain: how far a walk goes by itself, as functions of which only the equations are known (so that no check unfolds them), and which stand still where a test is not known.
  Plain: short spellings: of codes, of what a walk does again and again.
  Plain: tokens, operators and trees as cells.
  Plain: which trees could have been read, which are the same, and how large they are.
  Plain: how far is read.
  Plain: types, and how types are read of tokens.
  Plain: sentences, and how they are read of tokens.
  Plain: what a type takes, what comes of it, and which types may be.
  Plain: a type's text, its size, its variables.
  Plain: a type's text is no shorter than its parts'; types whose numbers are ints.
  Plain: how many types there are in one, and how long its text may be.
  Plain: contracts over worlds that hand back new memory.
  Plain: a slice of nothing in a block may be taken for one's own.
  Plain: heaps with two blocks of one's own that change.
  Plain: heaps with one block of one's own that changes.
  Plain: signatures, and what comes of sentences.
  Plain: how types are read, with what is left where something is wrong.
  Plain: what is read hangs on the tokens that are read alone.
  Plain: what is read of a sentence alone.
  Plain: what is read further on.
  Plain: what is read of a text, and of more behind it.
  Plain: the document's examples of sentences, reckoned.
  Plain: small aids of the walks.
  Plain: how types are read in the document's words, with what is left where something is wrong.
  Plain: heaps with four blocks of one's own, one behind the other, that change.
  Plain: what was added is found, what there was is as it was, and twice it is refused.
  Plain: the signature of sentences, one by one; its operators are those that were read.
-/
import Derived.Test.YtapnncbenhkicaaGreatDoorQJ10
import Derived.Test.YtapnncbenhkicaaGreatDoorQJ9
import Derived.Lib.Join
import Derived.Lib.ItoaNum
import Derived.Lib.ItoaLen
import Derived.Test.YtapnncbenhkicaaGreatDoorQLexNl
set_option linter.unusedSimpArgs false
set_option linter.unusedVariables false
set_option maxHeartbeats 8000000
set_option maxRecDepth 20000
namespace Go.Lamb
open Go Go.RowKit

/-! ### a region without a drawn order, and what stands around it -/
abbrev AdvK := List It → St → Prop
def advB (K : AdvK) (f : Nat) (k : List It) (s : St) : Prop := K (Lamb.adv f k s).1 (Lamb.adv f k s).2
def advS0 (x : Option (V × H)) (K : AdvK) (f : Nat) (o : AOp) (l : List AOp) (k : List It) (s : St) : Prop := match x with
  | some (v, σ') => advB K f (.ops l :: k) ⟨s.ρ.put o.dst v, σ'⟩
  | none => K (.ops (o :: l) :: k) s
def advG0 (x : Option Bool) (K : AdvK) (f : Nat) (o : AOp) (l : List AOp) (k : List It) (s : St) : Prop := match x with
  | some true => advS0 (step s.ρ s.σ o.ins) K f o l k s
  | some false => advB K f (.ops l :: k) ⟨s.ρ.put o.dst .void, s.σ⟩
  | none => K (.ops (o :: l) :: k) s
theorem adv_pack : Nonempty { g : (AdvK → Nat → List It → St → Prop) × (Option Bool → AdvK → Nat → AOp → List AOp → List It → St → Prop) × (Option (V × H) → AdvK → Nat → AOp → List AOp → List It → St → Prop) // g = (advB, advG0, advS0) } := ⟨⟨_, rfl⟩⟩
noncomputable def advO : AdvK → Nat → List It → St → Prop := (Classical.choice adv_pack).1.1
noncomputable def advG : Option Bool → AdvK → Nat → AOp → List AOp → List It → St → Prop := (Classical.choice adv_pack).1.2.1
noncomputable def advS : Option (V × H) → AdvK → Nat → AOp → List AOp → List It → St → Prop := (Classical.choice adv_pack).1.2.2
theorem advO_eq : advO = advB := by unfold advO; rw [(Classical.choice adv_pack).2]
theorem advG_eq : advG = advG0 := by unfold advG; rw [(Classical.choice adv_pack).2]
theorem advS_eq : advS = advS0 := by unfold advS; rw [(Classical.choice adv_pack).2]
section
variable (K : AdvK) (f : Nat) (k : List It) (s : St)
theorem advO_skip : advO K (f + 1) (.code .skip :: k) s = advO K f k s := by rw [advO_eq]; rfl
theorem advO_reg (l : List AOp) : advO K (f + 1) (.code (.reg l) :: k) s = advO K f (.ops l :: k) s := by rw [advO_eq]; rfl
theorem advO_seq (a b : AC) : advO K (f + 1) (.code (.seq a b) :: k) s = advO K f (.code a :: .code b :: k) s := by rw [advO_eq]; rfl
theorem advO_block (id : Nat) (c : AC) : advO K (f + 1) (.code (.block id c) :: k) s = advO K f (.code c :: .endb id :: k) s := by rw [advO_eq]; rfl
theorem advO_exit (id : Nat) : advO K (f + 1) (.code (.exit id) :: k) s = (match popTo id k with
        | some k' => advO K f k' s
        | none => K (.code (.exit id) :: k) s) := by
  rw [advO_eq]
  unfold advB
  simp only [Lamb.adv]
  generalize popTo id k = x
  cases x <;> rfl
theorem advO_endb (id : Nat) : advO K (f + 1) (.endb id :: k) s = advO K f k s := by rw [advO_eq]; rfl
theorem advO_opsNil : advO K (f + 1) (.ops [] :: k) s = advO K f k s := by rw [advO_eq]; rfl
theorem advO_ops (o : AOp) (l : List AOp) : advO K (f + 1) (.ops (o :: l) :: k) s = advG (wantedV s.ρ o.guard) K f o l k s := by
  rw [advO_eq, advG_eq]
  unfold advB advG0 advS0
  simp only [Lamb.adv]
  generalize wantedV s.ρ o.guard = x
  generalize step s.ρ s.σ o.ins = y
  rcases x with _ | b
  · rfl
  · cases b
    · rfl
    · rcases y with _ | ⟨v, τ⟩ <;> rfl
theorem advG_yes (o : AOp) (l : List AOp) : advG (some true) K f o l k s = advS (step s.ρ s.σ o.ins) K f o l k s := by rw [advG_eq, advS_eq]; rfl
theorem advG_no (o : AOp) (l : List AOp) : advG (some false) K f o l k s = advO K f (.ops l :: k) ⟨s.ρ.put o.dst .void, s.σ⟩ := by rw [advG_eq, advO_eq]; rfl
theorem advG_none (o : AOp) (l : List AOp) : advG none K f o l k s = K (.ops (o :: l) :: k) s := by rw [advG_eq]; rfl
theorem advS_some (v : V) (σ' : H) (o : AOp) (l : List AOp) : advS (some (v, σ')) K f o l k s = advO K f (.ops l :: k) ⟨s.ρ.put o.dst v, σ'⟩ := by rw [advS_eq, advO_eq]; rfl
theorem advS_none (o : AOp) (l : List AOp) : advS none K f o l k s = K (.ops (o :: l) :: k) s := by rw [advS_eq]; rfl
theorem advO_cond (c : Opd) (x y : AC) : advO K (f + 1) (.code (.cond c x y) :: k) s = K (.code (.cond c x y) :: k) s := by rw [advO_eq]; rfl
theorem advO_loop (c : AC) : advO K (f + 1) (.code (.loop c) :: k) s = K (.code (.loop c) :: k) s := by rw [advO_eq]; rfl
theorem advO_dreg (l : List AOp) (e : List EOp) : advO K (f + 1) (.code (.dreg l e) :: k) s = K (.code (.dreg l e) :: k) s := by rw [advO_eq]; rfl
theorem advO_ret : advO K (f + 1) (.code .ret :: k) s = K (.code .ret :: k) s := by rw [advO_eq]; rfl
theorem advO_bad : advO K (f + 1) (.code .bad :: k) s = K (.code .bad :: k) s := by rw [advO_eq]; rfl
theorem advO_inv (I : St → Prop) : advO K (f + 1) (.inv I :: k) s = K (.inv I :: k) s := by rw [advO_eq]; rfl
theorem advO_nil : advO K (f + 1) [] s = K [] s := by rw [advO_eq]; rfl
theorem advO_zero : advO K 0 k s = K k s := by rw [advO_eq]; rfl
/-- A guard that is not known: both ways. -/
theorem advG_if {b : Bool} {o : AOp} {l : List AOp} (h1 : b = true → advG (some true) K f o l k s) (h2 : b = false → advG (some false) K f o l k s) : advG (some b) K f o l k s := by
  cases b
  · exact h2 rfl
  · exact h1 rfl
theorem advG_ifn {b : Bool} {o : AOp} {l : List AOp} (h1 : b = true → advG (some false) K f o l k s) (h2 : b = false → advG (some true) K f o l k s) : advG (some (!b)) K f o l k s := by
  cases b
  · exact h2 rfl
  · exact h1 rfl
end
theorem W.testn {P : Program} {w0 : World} {n0 : Nat} {Q : St → Prop} {c : Opd} {x y : AC} {k : List It} {s : St} {t : Bool} (hc : c.ev s.ρ = .c (.bool (!t))) (h1 : t = true → W P w0 n0 Q (.code y :: k) s) (h2 : t = false → W P w0 n0 Q (.code x :: k) s) : W P w0 n0 Q (.code (.cond c x y) :: k) s := by
  cases t
  · exact .cond hc (fun _ => h2 rfl) (fun e => by cases e)
  · exact .cond hc (fun e => by cases e) (fun _ => h1 rfl)
theorem W.advO {P : Program} {w0 : World} {n0 : Nat} {Q : St → Prop} (f : Nat) (k : List It) (s : St) (h : Lamb.advO (W P w0 n0 Q) f k s) : W P w0 n0 Q k s := W.adv f k s (by rw [advO_eq] at h; exact h)

/-! ### a drawn region, in the early order -/
abbrev AdvE := List EOp → Env → H → List H → Prop
def pLS0 (x : Option (V × H)) (K : AdvE) (o : AOp) (lo : Nat) (l : List EOp) (ρ : Env) (σ : H) (past : List H) : Prop := match x with
  | some (v, σ1) => Lamb.advP K l (ρ.put o.dst v) σ1 (σ :: past)
  | none => K (⟨o, true, lo⟩ :: l) ρ σ past
def pL0 (x : Option Bool) (K : AdvE) (o : AOp) (lo : Nat) (l : List EOp) (ρ : Env) (σ : H) (past : List H) : Prop := match x with
  | some true => pLS0 (step ρ σ o.ins) K o lo l ρ σ past
  | some false => Lamb.advP K l (ρ.put o.dst .void) σ (σ :: past)
  | none => K (⟨o, true, lo⟩ :: l) ρ σ past
def pQS0 (q : Bool) (x : Option (V × H)) (K : AdvE) (o : AOp) (lo : Nat) (l : List EOp) (ρ : Env) (σ : H) (past : List H) : Prop := match q with
  | true => match x with
    | some (v, _) => (∀ τ ∈ past.take (past.length - lo), Lamb.step ρ τ o.ins = some (v, τ)) ∧ Lamb.advP K l (ρ.put o.dst v) σ past
    | none => K (⟨o, false, lo⟩ :: l) ρ σ past
  | false => K (⟨o, false, lo⟩ :: l) ρ σ past
def pQ0 (x : Option Bool) (K : AdvE) (o : AOp) (lo : Nat) (l : List EOp) (ρ : Env) (σ : H) (past : List H) : Prop := match x with
  | some true => pQS0 o.ins.quiet (step ρ σ o.ins) K o lo l ρ σ past
  | some false => Lamb.advP K l (ρ.put o.dst .void) σ past
  | none => K (⟨o, false, lo⟩ :: l) ρ σ past
theorem advP_pack : Nonempty { g : (AdvE → AdvE) × (Option (V × H) → AdvE → AOp → Nat → AdvE) × (Option Bool → AdvE → AOp → Nat → AdvE) × (Bool → Option (V × H) → AdvE → AOp → Nat → AdvE) × (Option Bool → AdvE → AOp → Nat → AdvE) // g = (Lamb.advP, pLS0, pL0, pQS0, pQ0) } := ⟨⟨_, rfl⟩⟩
noncomputable def advPO : AdvE → AdvE := (Classical.choice advP_pack).1.1
noncomputable def pLS : Option (V × H) → AdvE → AOp → Nat → AdvE := (Classical.choice advP_pack).1.2.1
noncomputable def pL : Option Bool → AdvE → AOp → Nat → AdvE := (Classical.choice advP_pack).1.2.2.1
noncomputable def pQS : Bool → Option (V × H) → AdvE → AOp → Nat → AdvE := (Classical.choice advP_pack).1.2.2.2.1
noncomputable def pQ : Option Bool → AdvE → AOp → Nat → AdvE := (Classical.choice advP_pack).1.2.2.2.2
theorem advPO_eq : advPO = Lamb.advP := by unfold advPO; rw [(Classical.choice advP_pack).2]
theorem pLS_eq : pLS = pLS0 := by unfold pLS; rw [(Classical.choice advP_pack).2]
theorem pL_eq : pL = pL0 := by unfold pL; rw [(Classical.choice advP_pack).2]
theorem pQS_eq : pQS = pQS0 := by unfold pQS; rw [(Classical.choice advP_pack).2]
theorem pQ_eq : pQ = pQ0 := by unfold pQ; rw [(Classical.choice advP_pack).2]
section
variable (K : AdvE) (o : AOp) (lo : Nat) (l : List EOp) (ρ : Env) (σ : H) (past : List H)
theorem advPO_nil : advPO K [] ρ σ past = K [] ρ σ past := by rw [advPO_eq]; rfl
theorem advPO_loud : advPO K (⟨o, true, lo⟩ :: l) ρ σ past = pL (wantedV ρ o.guard) K o lo l ρ σ past := by
  rw [advPO_eq, pL_eq]
  unfold pL0 pLS0
  simp only [Lamb.advP] <;> rfl
theorem pL_yes : pL (some true) K o lo l ρ σ past = pLS (step ρ σ o.ins) K o lo l ρ σ past := by rw [pL_eq, pLS_eq]; rfl
theorem pL_no : pL (some false) K o lo l ρ σ past = advPO K l (ρ.put o.dst .void) σ (σ :: past) := by rw [pL_eq, advPO_eq]; rfl
theorem pLS_some (v : V) (σ1 : H) : pLS (some (v, σ1)) K o lo l ρ σ past = advPO K l (ρ.put o.dst v) σ1 (σ :: past) := by rw [pLS_eq, advPO_eq]; rfl
theorem pLS_none : pLS none K o lo l ρ σ past = K (⟨o, true, lo⟩ :: l) ρ σ past := by rw [pLS_eq]; rfl
theorem advPO_quiet : advPO K (⟨o, false, lo⟩ :: l) ρ σ past = pQ (wantedV ρ o.guard) K o lo l ρ σ past := by
  rw [advPO_eq, pQ_eq]
  unfold pQ0 pQS0
  simp only [Lamb.advP] <;> rfl
theorem pQ_yes : pQ (some true) K o lo l ρ σ past = pQS o.ins.quiet (step ρ σ o.ins) K o lo l ρ σ past := by rw [pQ_eq, pQS_eq]; rfl
theorem pQ_no : pQ (some false) K o lo l ρ σ past = advPO K l (ρ.put o.dst .void) σ past := by rw [pQ_eq, advPO_eq]; rfl
theorem pQS_some (v : V) (σ1 : H) : pQS true (some (v, σ1)) K o lo l ρ σ past = ((∀ τ ∈ past.take (past.length - lo), Lamb.step ρ τ o.ins = some (v, τ)) ∧ advPO K l (ρ.put o.dst v) σ past) := by rw [pQS_eq, advPO_eq]; rfl
theorem pQS_loud (x : Option (V × H)) : pQS false x K o lo l ρ σ past = K (⟨o, false, lo⟩ :: l) ρ σ past := by rw [pQS_eq]; rfl
end
/-! ### a drawn region, in the order of the text -/
abbrev AdvC := List AOp → Env → Prop
def advC0 (K : AdvC) (σ : H) (l : List AOp) (ρ : Env) : Prop := K (Lamb.advC σ l ρ).1 (Lamb.advC σ l ρ).2
def cS0 (q : Bool) (x : Option (V × H)) (K : AdvC) (σ : H) (o : AOp) (l : List AOp) (ρ : Env) : Prop := match q with
  | true => match x with
    | some (v, _) => advC0 K σ l (ρ.put o.dst v)
    | none => K (o :: l) ρ
  | false => K (o :: l) ρ
def cG0 (x : Option Bool) (K : AdvC) (σ : H) (o : AOp) (l : List AOp) (ρ : Env) : Prop := match x with
  | some true => cS0 o.ins.quiet (step ρ σ o.ins) K σ o l ρ
  | some false => advC0 K σ l (ρ.put o.dst .void)
  | none => K (o :: l) ρ
theorem advC_pack : Nonempty { g : (AdvC → H → List AOp → Env → Prop) × (Bool → Option (V × H) → AdvC → H → AOp → List AOp → Env → Prop) × (Option Bool → AdvC → H → AOp → List AOp → Env → Prop) // g = (advC0, cS0, cG0) } := ⟨⟨_, rfl⟩⟩
noncomputable def advCO : AdvC → H → List AOp → Env → Prop := (Classical.choice advC_pack).1.1
noncomputable def cS : Bool → Option (V × H) → AdvC → H → AOp → List AOp → Env → Prop := (Classical.choice advC_pack).1.2.1
noncomputable def cG : Option Bool → AdvC → H → AOp → List AOp → Env → Prop := (Classical.choice advC_pack).1.2.2
theorem advCO_eq : advCO = advC0 := by unfold advCO; rw [(Classical.choice advC_pack).2]
theorem cS_eq : cS = cS0 := by unfold cS; rw [(Classical.choice advC_pack).2]
theorem cG_eq : cG = cG0 := by unfold cG; rw [(Classical.choice advC_pack).2]
section
variable (K : AdvC) (σ : H) (o : AOp) (l : List AOp) (ρ : Env)
theorem advCO_nil : advCO K σ [] ρ = K [] ρ := by rw [advCO_eq]; rfl
theorem advCO_cons : advCO K σ (o :: l) ρ = cG (wantedV ρ o.guard) K σ o l ρ := by
  rw [advCO_eq, cG_eq]
  unfold advC0 cG0 cS0 advC0
  simp only [Lamb.advC]
  generalize wantedV ρ o.guard = x
  generalize step ρ σ o.ins = y
  generalize o.ins.quiet = q
  rcases x with _ | b
  · rfl
  · cases b
    · rfl
    · cases q
      · rfl
      · rcases y with _ | ⟨v, τ⟩ <;> rfl
theorem cG_yes : cG (some true) K σ o l ρ = cS o.ins.quiet (step ρ σ o.ins) K σ o l ρ := by rw [cG_eq, cS_eq]; rfl
theorem cG_no : cG (some false) K σ o l ρ = advCO K σ l (ρ.put o.dst .void) := by rw [cG_eq, advCO_eq]; rfl
theorem cS_some (v : V) (σ1 : H) : cS true (some (v, σ1)) K σ o l ρ = advCO K σ l (ρ.put o.dst v) := by rw [cS_eq, advCO_eq]; rfl
theorem cS_loud (x : Option (V × H)) : cS false x K σ o l ρ = K (o :: l) ρ := by rw [cS_eq]; rfl
end
section
variable {P : Program} {w0 : World}
theorem CanonE.advPO {ρ' : Env} {σ' : H} {past' : List H} (l : List EOp) (ρ : Env) (σ : H) (past : List H) (h : Lamb.advPO (fun l ρ σ past => CanonE P w0 l ρ σ past ρ' σ' past') l ρ σ past) : CanonE P w0 l ρ σ past ρ' σ' past' := CanonE.advP l ρ σ past (by rw [← advPO_eq]; exact h)
theorem Canon.advCO {σ : H} {ρ' : Env} (l : List AOp) (ρ : Env) (h : Lamb.advCO (fun l ρ => Canon P w0 σ l ρ ρ') σ l ρ) : Canon P w0 σ l ρ ρ' := Canon.adv l ρ (by rw [advCO_eq] at h; exact h)
end
/-- A contract for what the arguments may be taken for. -/
theorem DC.weakA {P : Program} {w0 : World} {f : FuncId} {args args' : List V} {σ : H} {R : V → H → Prop} (h : DC P w0 f args' σ R) (hw : V.wk (.agg args) (.agg args')) : DC P w0 f args σ R :=
  ⟨h.enters, fun κ w vs hrep hf => h.run κ w vs hrep (by
    have h1 : RV κ (.agg args) (.agg vs.toArray) := .agg hf.1 hf.2
    have h2 := RV.wk hw h1
    generalize hx : vs.toArray = x at h2
    cases h2 with
    | agg k1 k2 =>
      have : vs = _ := List.toArray_inj hx
      subst this
      exact ⟨k1, k2⟩)⟩
theorem W.call1w {P : Program} {w0 : World} {n0 : Nat} {Q : St → Prop} {d : Option Nat} {f : Opd} {as : List Opd} {g : Option (Nat × Bool)} {l : List AOp} {k : List It} {s : St} {fid : FuncId} {caps : List V} {args args' : List V} {v : V} {σ' : H} (hc : DC P w0 fid args' s.σ (Same v σ')) (hg : wantedV s.ρ g = some true) (hf : f.ev s.ρ = .fn fid caps)
    (ha : as.map (·.ev s.ρ) ++ caps = args) (hw : V.wk (.agg args) (.agg args')) (h : W P w0 n0 Q (.ops l :: k) ⟨s.ρ.put d v, σ'⟩) : W P w0 n0 Q (.ops (⟨d, .call f as, g⟩ :: l) :: k) s :=
  W.call1 (hc.weakA hw) hg hf ha h
theorem CanonE.callw {P : Program} {w0 : World} {σ σ' σ1 : H} {past past' : List H} {ρ ρ' : Env} {d : Option Nat} {f : Opd} {as : List Opd} {g : Option (Nat × Bool)} {lo : Nat} {l : List EOp} {fid : FuncId} {caps args args' : List V} {v : V} (hc : DC P w0 fid args' σ (Same v σ1)) (hg : wantedV ρ g = some true) (hf : f.ev ρ = .fn fid caps)
    (ha : as.map (·.ev ρ) ++ caps = args) (hw : V.wk (.agg args) (.agg args')) (h : CanonE P w0 l (ρ.put d v) σ1 (σ :: past) ρ' σ' past') : CanonE P w0 (⟨⟨d, .call f as, g⟩, true, lo⟩ :: l) ρ σ past ρ' σ' past' :=
  CanonE.call (hc.weakA hw) hg hf ha h
theorem wk_bool {a b : Bool} (h : a = b) : V.wk (.c (.bool a)) (.c (.bool b)) := by subst h; exact .rfl _
end Go.Lamb
namespace Go.Lamb
open Go Go.RowKit

abbrev AOp.o (d : Nat) (i : Ins) : AOp := ⟨some d, i, none⟩
abbrev AOp.m (d s : Nat) : AOp := ⟨some d, .mov (.t s), none⟩
abbrev AOp.f (d k s : Nat) : AOp := ⟨some d, .fadd k (.t s), none⟩
abbrev AOp.l (d s : Nat) : AOp := ⟨some d, .load1 (.t s), none⟩
abbrev AOp.d (d n s : Nat) : AOp := ⟨some d, .loadn n (.t s), none⟩
abbrev AOp.n (d s : Nat) : AOp := ⟨some d, .nilck (.t s), none⟩
abbrev AOp.x (d s k : Nat) : AOp := ⟨some d, .ext (.t s) k, none⟩
abbrev AOp.s (n a b : Nat) : AOp := ⟨none, .store n (.t a) (.t b), none⟩
abbrev AOp.k (d f : Nat) (l : List Opd) : AOp := ⟨some d, .call (.k (.fn f [])) l, none⟩
abbrev AOp.y (d : Nat) (i : Ins) (g : Nat) : AOp := ⟨some d, i, some (g, true)⟩
abbrev AOp.z (d : Nat) (i : Ins) (g : Nat) : AOp := ⟨some d, i, some (g, false)⟩
abbrev EOp.q (o : AOp) : EOp := ⟨o, false, 0⟩

/-- The code of a function, without addresses. -/
structure CodeIs (P : Program) (f : FuncId) (n : Nat) (fn : Func) (x : AC) (r : List ResV) : Prop where
  hm : P.follows .mixedOrders = true
  hf : P.funcs[f]? = some fn
  hb : fn.body = some (fn.body.getD .skip)
  htr : tr P fn.ntmps (fn.body.getD .skip) = some x
  hres : trRes P fn.results.toList = some r
  hn : n ≤ fn.ntmps
  en : Enters P f
theorem CodeIs.go {P : Program} {f : FuncId} {n : Nat} {fn : Func} {x : AC} {r : List ResV} (K : CodeIs P f n fn x r) {w0 : World} {args : List V} {σ : H} {R : V → H → Prop} (ha : args.length = n) (h : H.ok σ → (∀ x ∈ args, V.Sz x) → W P w0 σ.length (Fin r σ.length R) [.code x] ⟨argEnv args, σ⟩) : DC P w0 f args σ R :=
  DC.of_code K.hm K.hf K.hb K.htr K.hres (by rw [ha]; exact K.hn) K.en h
section
variable {P : Program} {w0 : World} {n0 : Nat} {Q : St → Prop}
theorem W.a {k : List It} {s : St} (h : Lamb.advO (W P w0 n0 Q) 5000 k s) : W P w0 n0 Q k s := W.advO 5000 k s h
theorem W.c1 {d : Option Nat} {f : Opd} {as : List Opd} {g : Option (Nat × Bool)} {l : List AOp} {k : List It} {s : St} {fid : FuncId} {caps : List V} {args : List V} {v : V} {σ' : H} (hc : DC P w0 fid args s.σ (Same v σ')) (h : Lamb.advO (W P w0 n0 Q) 5000 (.ops l :: k) ⟨s.ρ.put d v, σ'⟩)
    (hg : wantedV s.ρ g = some true := by rfl) (hf : f.ev s.ρ = .fn fid caps := by rfl) (ha : as.map (·.ev s.ρ) ++ caps = args := by first | rfl | simp) : W P w0 n0 Q (.ops (⟨d, .call f as, g⟩ :: l) :: k) s := W.call1 hc hg hf ha (W.a h)
theorem wk_here {a b : V} (h : V.wk a b := by (repeat' (first | exact Go.Lamb.V.wk.rfl _ | exact Go.Lamb.V.wk.csl _ | exact Go.Lamb.V.wk.osl _ _ | exact Go.Lamb.wk_agg_nil | exact Go.Lamb.wk_tup_nil | refine Go.Lamb.wk_agg_cons ?_ ?_ | refine Go.Lamb.wk_tup_cons ?_ ?_))) : V.wk a b := h
theorem lee_here {a b : Env} (h : LeE a b := by (repeat' (first | exact Go.Lamb.LeE.base _ | (refine Go.Lamb.LeE.put ?_ (by first | exact Go.Lamb.V.wk.rfl _ | exact Go.Lamb.V.wk.osl _ _ | exact Go.Lamb.V.wk.csl _))))) : LeE a b := h
theorem W.c1w {d : Option Nat} {f : Opd} {as : List Opd} {g : Option (Nat × Bool)} {l : List AOp} {k : List It} {s : St} {fid : FuncId} {caps : List V} {args args' : List V} {v : V} {σ' : H} (hc : DC P w0 fid args' s.σ (Same v σ')) (h : Lamb.advO (W P w0 n0 Q) 5000 (.ops l :: k) ⟨s.ρ.put d v, σ'⟩)
    (hg : wantedV s.ρ g = some true := by rfl) (hf : f.ev s.ρ = .fn fid caps := by rfl) (ha : as.map (·.ev s.ρ) ++ caps = args := by rfl) (hw : V.wk (.agg args) (.agg args') := by exact Go.Lamb.wk_here) : W P w0 n0 Q (.ops (⟨d, .call f as, g⟩ :: l) :: k) s := W.call1w hc hg hf ha hw (W.a h)
theorem W.fg {r : List ResV} {k : List It} {s : St} {σ' τ : H} {vs : List V} {d : V} {R : V → H → Prop} (hok : H.ok σ') (h : resEval s r = some vs) (hd : V.wk (resV vs) d) (hR : R d σ') (hn : σ'.length = n0 := by first | rfl | exact List.length_set .. | simp)
    (hl : V.low n0 d := by first | exact .c _ | (simp only [go_sem]; done)) (hσ : s.σ = σ' ++ τ := by first | rfl | exact (List.append_nil _).symm) : W P w0 n0 (Fin r n0 R) (.code .ret :: k) s := W.ret (Fin.gen hok hn h hd hl hσ hR)
theorem W.fs {r : List ResV} {k : List It} {s : St} {σ' τ : H} {vs : List V} {d : V} (hok : H.ok σ') (h : resEval s r = some vs) (hd : V.wk (resV vs) d) (hn : σ'.length = n0 := by first | rfl | exact List.length_set .. | simp)
    (hl : V.low n0 d := by first | exact .c _ | (simp only [go_sem]; done)) (hσ : s.σ = σ' ++ τ := by first | rfl | exact (List.append_nil _).symm) : W P w0 n0 (Fin r n0 (Same d σ')) (.code .ret :: k) s := W.ret (Fin.sameW hok hn h hd hl hσ)
end
end Go.Lamb
namespace Go.Lamb
open Go Go.RowKit

theorem beq_t (b : Bool) : (b == true) = b := by cases b <;> rfl
theorem beq_f (b : Bool) : (b == false) = !b := by cases b <;> rfl
def I (n : Int) : V := .c (.int .i64 n)
def S (l : List UInt8) : V := .c (.str l)
def B (b : Bool) : V := .c (.bool b)
def OpT.cs (o : OpT) : List C := [.str o.name, .int .i64 o.prec, .int .i64 o.fix]
def OpT.v (o : OpT) : V := .agg [.c (.str o.name), .c (.int .i64 o.prec), .c (.int .i64 o.fix)]
def opsC (l : List OpT) : C := .sl (l.map OpT.cs)
def Tok.cs (t : Tok) : List C := [.int .i64 t.kind, .str t.text, .int .i64 t.n, .int .i64 t.pos]
def Tok.v (t : Tok) : V := .agg [.c (.int .i64 t.kind), .c (.str t.text), .c (.int .i64 t.n), .c (.int .i64 t.pos)]
def toksC (l : List Tok) : C := .sl (l.map Tok.cs)
mutual
def Pre.cs : Pre → List C
  | .mk k s n l a => [.int .i64 k, .str s, .int .i64 n, .sl (Pre.rows l), .int .i64 a]
def Pre.rows : List Pre → List (List C)
  | [] => []
  | p :: l => p.cs :: Pre.rows l
end
theorem Pre.rows_map (l : List Pre) : Pre.rows l = l.map Pre.cs := by
  induction l with
  | nil => rfl
  | cons p l ih => simp [Pre.rows, ih]
def Pre.v (p : Pre) : V := .agg [.c (.int .i64 p.k), .c (.str p.name), .c (.int .i64 p.n), .c (.sl (p.l.map Pre.cs)), .c (.int .i64 p.pos)]
theorem Pre.cs_eq (p : Pre) : p.cs = [.int .i64 p.k, .str p.name, .int .i64 p.n, .sl (p.l.map Pre.cs), .int .i64 p.pos] := by
  cases p
  simp [Pre.cs, Pre.k, Pre.name, Pre.n, Pre.l, Pre.pos, Pre.rows_map]
def UpTo {α : Type} (p : α → Bool) (l : List α) (i : Nat) : Prop := ∀ j (hj : j < l.length), j < i → p l[j] = false
/-- Where the first such one is; -1: there is none. -/
def idxI {α : Type} (p : α → Bool) (l : List α) : Int := match l.findIdx? p with
  | some k => k
  | none => -1
theorem idxI_at {α : Type} {p : α → Bool} {l : List α} {i : Nat} (h : UpTo p l i) (hi : i < l.length) (hp : p l[i] = true) : idxI p l = i := by
  unfold idxI
  rw [List.findIdx?_eq_some_iff_getElem.2 ⟨hi, hp, fun j hj => by rw [h j (by omega) hj]; simp⟩]
theorem idxI_none {α : Type} {p : α → Bool} {l : List α} (h : ∀ j (hj : j < l.length), p l[j] = false) : idxI p l = -1 := by
  unfold idxI
  rw [List.findIdx?_eq_none_iff.2 fun x hx => by obtain ⟨j, hj, rfl⟩ := List.getElem_of_mem hx; exact h j hj]
theorem idxI_cases {α : Type} (p : α → Bool) (l : List α) : (idxI p l = -1 ∧ l.find? p = none) ∨ ∃ i, ∃ (hi : i < l.length), idxI p l = (i : Int) ∧ l.find? p = some l[i] := by
  unfold idxI
  cases h : l.findIdx? p with
  | none =>
    left
    rw [List.findIdx?_eq_none_iff] at h
    exact ⟨rfl, List.find?_eq_none.2 fun x hx => by rw [h x hx]; simp⟩
  | some k =>
    right
    obtain ⟨hk, h1, h2⟩ := List.findIdx?_eq_some_iff_getElem.1 h
    refine ⟨k, hk, rfl, ?_⟩
    rw [List.find?_eq_some_iff_getElem]
    exact ⟨h1, k, hk, rfl, fun j hj => by simpa using h2 j hj⟩
theorem idxI_none_iff {α : Type} {p : α → Bool} {l : List α} : idxI p l = -1 ↔ ∀ x ∈ l, p x = false := by
  unfold idxI
  cases h : l.findIdx? p with
  | none => simpa [List.findIdx?_eq_none_iff] using h
  | some k =>
    obtain ⟨hk, h1, _⟩ := List.findIdx?_eq_some_iff_getElem.1 h
    constructor
    · intro e; simp only at e; omega
    · intro e; rw [e _ (List.getElem_mem hk)] at h1; cases h1
/-- What was found, and whether it was. -/
def OpT.zero : OpT := ⟨[], 0, 0⟩
def foundV (o : Option OpT) : V := .tup [(o.getD OpT.zero).v, B o.isSome]
theorem find_at {α : Type} {p : α → Bool} {l : List α} {i : Nat} (h : UpTo p l i) (hi : i < l.length) (hp : p l[i] = true) : l.find? p = some l[i] := by
  rw [List.find?_eq_some_iff_getElem]
  exact ⟨hp, i, hi, rfl, fun j hj => by rw [h j (by omega) hj]; rfl⟩
theorem find_no {α : Type} {p : α → Bool} {l : List α} {i : Nat} (h : UpTo p l i) (hi : l.length ≤ i) : l.find? p = none := by
  rw [List.find?_eq_none]
  intro x hx
  obtain ⟨j, hj, rfl⟩ := List.getElem_of_mem hx
  rw [h j hj (by omega)]
  simp
theorem upTo_next {α : Type} {p : α → Bool} {l : List α} {i : Nat} (h : UpTo p l i) (hi : i < l.length) (hp : p l[i] = false) : UpTo p l (i + 1) := fun j hj hji => by
  rcases Nat.lt_succ_iff_lt_or_eq.1 hji with h' | h'
  · exact h j hj h'
  · subst h'; exact hp
theorem upTo_zero {α : Type} {p : α → Bool} {l : List α} : UpTo p l 0 := fun j _ h => absurd h (by omega)
theorem sz_rows {α : Type} {f : α → List C} {l : List α} (h : V.Sz (.c (.sl (l.map f)))) : l.length ≤ 9223372036854775807 := by
  rw [sz_c, sz_sl] at h
  simpa [maxLen] using h.1
theorem wrap_next {i n : Nat} (h : i < n) (hn : n ≤ 9223372036854775807) : IntKind.i64.wrap ((i : Int) + 1) = ((i + 1 : Nat) : Int) := by rw [wrap_in] <;> omega
theorem nat0 (i : Nat) : (0 : Int) ≤ (i : Int) := by omega
theorem natCast0 : ((0 : Nat) : Int) = 0 := rfl
theorem natCast1 : ((1 : Nat) : Int) = 1 := rfl
theorem natCast2 : ((2 : Nat) : Int) = 2 := rfl
theorem k_mk (k : Int) (s : List UInt8) (n : Int) (l : List Pre) (a : Int) : (Pre.mk k s n l a).k = k := rfl
theorem name_mk (k : Int) (s : List UInt8) (n : Int) (l : List Pre) (a : Int) : (Pre.mk k s n l a).name = s := rfl
theorem n_mk (k : Int) (s : List UInt8) (n : Int) (l : List Pre) (a : Int) : (Pre.mk k s n l a).n = n := rfl
theorem l_mk (k : Int) (s : List UInt8) (n : Int) (l : List Pre) (a : Int) : (Pre.mk k s n l a).l = l := rfl
theorem pos_mk (k : Int) (s : List UInt8) (n : Int) (l : List Pre) (a : Int) : (Pre.mk k s n l a).pos = a := rfl
end Go.Lamb
namespace Go.Lamb
open Go Go.RowKit

/-- Are two rows as long, and each two such? -/
def zipAll {α β : Type} (f : α → β → Bool) : List α → List β → Bool
  | [], [] => true
  | x :: l, y :: r => f x y && zipAll f l r
  | _, _ => false
theorem zipAll_len {α β : Type} {f : α → β → Bool} : ∀ {l : List α} {r : List β}, l.length ≠ r.length → zipAll f l r = false
  | [], [], h => absurd rfl h
  | x :: l, y :: r, h => by
    rw [zipAll, zipAll_len (l := l) (r := r) (fun e => h (by simp [e])), Bool.and_false]
  | [], _ :: _, _ => rfl
  | _ :: _, [], _ => rfl
theorem zipAll_no {α β : Type} {f : α → β → Bool} : ∀ {l : List α} {r : List β} {j : Nat} (hj : j < l.length) (hj' : j < r.length), f l[j] r[j] = false → zipAll f l r = false
  | x :: l, y :: r, 0, _, _, h => by rw [zipAll]; simp only [List.getElem_cons_zero] at h; rw [h]; rfl
  | x :: l, y :: r, j + 1, hj, hj', h => by
    rw [zipAll, zipAll_no (j := j) (by simpa using hj) (by simpa using hj') (by simpa using h), Bool.and_false]
  | [], _, _, hj, _, _ => by simp at hj
  | _ :: _, [], _, _, hj', _ => by simp at hj'
theorem zipAll_yes {α β : Type} {f : α → β → Bool} : ∀ {l : List α} {r : List β}, l.length = r.length → (∀ j (hj : j < l.length) (hj' : j < r.length), f l[j] r[j] = true) → zipAll f l r = true
  | [], [], _, _ => rfl
  | x :: l, y :: r, hl, h => by
    rw [zipAll, zipAll_yes (by simpa using hl) (fun j hj hj' => h (j + 1) (Nat.succ_lt_succ hj) (Nat.succ_lt_succ hj'))]
    have := h 0 (by simp) (by simp)
    simp only [List.getElem_cons_zero] at this
    rw [this]; rfl
  | [], _ :: _, hl, _ => by simp at hl
  | _ :: _, [], hl, _ => by simp at hl
theorem Pre.ind {P : Pre → Prop} (h : ∀ p, (∀ q ∈ p.l, P q) → P p) : ∀ p, P p
  | .mk k s n l a => h _ fun q hq => Pre.ind h q
termination_by p => SizeOf.sizeOf p
decreasing_by
  have := List.sizeOf_lt_of_mem hq
  simp only [Pre.l] at this
  simp only [Pre.mk.sizeOf_spec]
  omega
mutual
/-- The same, but for places? -/
def samePre : Pre → Pre → Bool
  | .mk k s n l _, .mk k' s' n' l' _ => k == k' && s == s' && n == n' && samePres l l'
def samePres : List Pre → List Pre → Bool
  | [], [] => true
  | x :: l, y :: r => samePre x y && samePres l r
  | _, _ => false
end
/-- May one be so, but for what it is made of? -/
def nodeOk (l : List OpT) (k : Int) (s : List UInt8) (n : Int) (len : Nat) : Bool :=
  if k = 0 then (isNameB s || isSymB s) && n == 0 && len == 0
  else if k = 1 then isVarB s && !(findL l s).isSome && n == 0 && len == 0
  else if k = 2 then s == [] && decide (0 ≤ n) && len == 0
  else if k = 3 then s == [] && n == 0 && len == 2
  else if k = 4 then (isNameB s || isVarB s) && !(findL l s).isSome && n == 0 && len == 1
  else false
mutual
def validPre (o : List OpT) : Pre → Bool
  | .mk k s n l _ => nodeOk o k s n l.length && validPres o l
def validPres (o : List OpT) : List Pre → Bool
  | [] => true
  | x :: l => validPre o x && validPres o l
end
mutual
/-- What is left of so many nodes. -/
def leftP : Pre → Int → Int
  | .mk _ _ _ l _, n => leftPs l (n - 1)
def leftPs : List Pre → Int → Int
  | [], n => n
  | p :: l, n => if 0 ≤ n then leftPs l (leftP p n) else n
end
mutual
theorem leftP_le : ∀ (p : Pre) (n : Int), 0 ≤ n → -1 ≤ leftP p n ∧ leftP p n ≤ n - 1
  | .mk _ _ _ l _, n, h => by rw [leftP]; exact leftPs_le l (n - 1) (by omega)
theorem leftPs_le : ∀ (l : List Pre) (n : Int), -1 ≤ n → -1 ≤ leftPs l n ∧ leftPs l n ≤ n
  | [], n, h => by rw [leftPs]; omega
  | p :: l, n, h => by
    rw [leftPs]
    split
    · rename_i h0
      have h1 := leftP_le p n h0
      have h2 := leftPs_le l (leftP p n) h1.1
      omega
    · omega
end
end Go.Lamb
namespace Go.Lamb
open Go Go.RowKit

theorem tokL_lt {t : List Tok} {i : Nat} (h : (tokL t i).kind ≠ 0) : i < t.length := by
  rcases Nat.lt_or_ge i t.length with h' | h'
  · exact h'
  · rw [tokL, List.getElem?_eq_none h'] at h
    exact absurd rfl h
theorem begins_lt {l : List OpT} {t : List Tok} {i : Nat} (h : beginsL l (tokL t i) ≠ false) : i < t.length := by
  refine tokL_lt fun e => h ?_
  rw [beginsL, e]
  simp
theorem opOf_lt {l : List OpT} {t : List Tok} {i : Nat} {o : OpT} (h : opOf l (tokL t i) = some o) : i < t.length := by
  refine tokL_lt fun e => ?_
  rw [opOf, e] at h
  simp at h
theorem fuel_bounds : ∀ (f : Nat),
    (∀ l t depth i p j, atomF f l t depth i = some (.ok (p, j)) → i < j ∧ j ≤ t.length) ∧
    (∀ l t depth i p pos last q j, argsF f l t depth i p pos last = some (.ok (q, j)) → i ≤ t.length → i ≤ j ∧ j ≤ t.length) ∧
    (∀ l t least depth i m j, exprF f l t least depth i = some (.ok (m, j)) → i < j ∧ j ≤ t.length) ∧
    (∀ l t least depth i m r j, chainF f l t least depth i m = some (.ok (r, j)) → i ≤ t.length → i ≤ j ∧ j ≤ t.length)
  | 0 => ⟨fun _ _ _ _ _ _ h => by simp [atomF] at h, fun _ _ _ _ _ _ _ _ _ h => by simp [argsF] at h, fun _ _ _ _ _ _ _ h => by simp [exprF] at h, fun _ _ _ _ _ _ _ _ h => by simp [chainF] at h⟩
  | f + 1 => by
    obtain ⟨h1, h2, h3, h4⟩ := fuel_bounds f
    refine ⟨fun l t depth i p j h => ?_, fun l t depth i p pos last q j h hi => ?_, fun l t least depth i m j h => ?_, fun l t least depth i m r j h hi => ?_⟩
    · rw [atomF] at h
      simp only at h
      split at h
      · cases h
      · rename_i hb
        have hlt := begins_lt hb
        split at h
        · split at h
          · rename_i hc
            have := tokL_lt (t := t) (i := i + 2) (by rw [hc.2]; decide)
            injection h with h; injection h with h; injection h with _ h
            omega
          · split at h
            · cases h
            · cases he : exprF f l t 0 (depth + 1) (i + 1) with
              | none => rw [he] at h; cases h
              | some x =>
                rw [he] at h
                cases x with
                | error b => cases h
                | ok x =>
                  obtain ⟨m, k⟩ := x
                  simp only at h
                  split at h
                  · rename_i hk
                    have := tokL_lt (t := t) (i := k) (by rw [hk]; decide)
                    have := h3 _ _ _ _ _ _ _ he
                    injection h with h; injection h with h; injection h with _ h
                    omega
                  · cases h
        · split at h
          · injection h with h; injection h with h; injection h with _ h
            omega
          · split at h
            · split at h
              · cases h
              · cases he : exprF f l t 0 (depth + 1) (i + 2) with
                | none => rw [he] at h; cases h
                | some x =>
                  rw [he] at h
                  cases x with
                  | error b => cases h
                  | ok x =>
                    obtain ⟨m, k⟩ := x
                    have := h3 _ _ _ _ _ _ _ he
                    injection h with h; injection h with h; injection h with _ h
                    omega
            · injection h with h; injection h with h; injection h with _ h
              omega
    · rw [argsF] at h
      split at h
      · injection h with h; injection h with h; injection h with _ h
        omega
      · cases he : atomF f l t depth i with
        | none => rw [he] at h; cases h
        | some x =>
          rw [he] at h
          cases x with
          | error b => cases h
          | ok x =>
            have := h1 _ _ _ _ _ _ he
            have := h2 _ _ _ _ _ _ _ _ _ h this.2
            omega
    · rw [exprF] at h
      cases he : atomF f l t depth i with
      | none => rw [he] at h; cases h
      | some x =>
        rw [he] at h
        cases x with
        | error b => cases h
        | ok x =>
          simp only at h
          have k1 := h1 _ _ _ _ _ _ he
          cases hg : argsF f l t depth x.2 x.1 x.1.pos (lamAt t i) with
          | none => rw [hg] at h; cases h
          | some y =>
            rw [hg] at h
            cases y with
            | error b => cases h
            | ok y =>
              have k2 := h2 _ _ _ _ _ _ _ _ _ hg k1.2
              have k3 := h4 _ _ _ _ _ _ _ _ h k2.2
              omega
    · rw [chainF] at h
      cases ho : opOf l (tokL t i) with
      | none =>
        rw [ho] at h
        injection h with h; injection h with h; injection h with _ h
        omega
      | some o =>
        rw [ho] at h
        simp only at h
        have hlt := opOf_lt ho
        split at h
        · injection h with h; injection h with h; injection h with _ h
          omega
        · split at h
          · cases h
          · split at h
            · cases h
            · cases he : exprF f l t (nextL o) (depth + 1) (i + 1) with
              | none => rw [he] at h; cases h
              | some x =>
                rw [he] at h
                cases x with
                | error b => cases h
                | ok x =>
                  have k1 := h3 _ _ _ _ _ _ _ he
                  simp only at h
                  cases hb : x.1.by_ with
                  | none =>
                    rw [hb] at h
                    have := h4 _ _ _ _ _ _ _ _ h k1.2
                    omega
                  | some y =>
                    rw [hb] at h
                    simp only at h
                    split at h
                    · have := h4 _ _ _ _ _ _ _ _ h k1.2
                      omega
                    · cases h
/-- Something is read, or something is wrong. -/
theorem fuel_enough (l : List OpT) (t : List Tok) : ∀ (n : Nat),
    (∀ depth i, t.length ≤ i + n → ∃ f r, atomF f l t depth i = some r) ∧
    (∀ depth i p pos last, t.length ≤ i + n → ∃ f r, argsF f l t depth i p pos last = some r) ∧
    (∀ least depth i, t.length ≤ i + n → ∃ f r, exprF f l t least depth i = some r) ∧
    (∀ least depth i m, t.length ≤ i + n → ∃ f r, chainF f l t least depth i m = some r) := by
  intro n
  induction n using Nat.strongRecOn with
  | ind n ih =>
    have hA : ∀ depth i, t.length ≤ i + n → ∃ f r, atomF f l t depth i = some r := fun depth i hi => by
      by_cases hb : beginsL l (tokL t i) = false
      · exact ⟨1, _, by rw [atomF]; simp only; rw [if_pos hb]⟩
      · have hlt := begins_lt hb
        obtain ⟨n', rfl⟩ : ∃ n', n = n' + 1 := ⟨n - 1, by omega⟩
        obtain ⟨f1, r1, h1⟩ := (ih n' (by omega)).2.2.1 0 (depth + 1) (i + 1) (by omega)
        obtain ⟨f2, r2, h2⟩ : ∃ f r, exprF f l t 0 (depth + 1) (i + 2) = some r := by
          rcases Nat.lt_or_ge 0 n' with h | h
          · obtain ⟨n2, rfl⟩ : ∃ n2, n' = n2 + 1 := ⟨n' - 1, by omega⟩
            exact (ih n2 (by omega)).2.2.1 0 (depth + 1) (i + 2) (by omega)
          · exact (ih n' (by omega)).2.2.1 0 (depth + 1) (i + 2) (by omega)
        have h1' := (fuel_le (Nat.le_max_left f1 f2)).2.2.1 _ _ _ _ _ _ h1
        have h2' := (fuel_le (Nat.le_max_right f1 f2)).2.2.1 _ _ _ _ _ _ h2
        refine ⟨max f1 f2 + 1, ?_⟩
        rw [atomF]
        simp only
        rw [if_neg hb, h1', h2']
        split
        · split
          · exact ⟨_, rfl⟩
          · split
            · exact ⟨_, rfl⟩
            · cases r1 with
              | error b => exact ⟨_, rfl⟩
              | ok x =>
                simp only
                split
                · exact ⟨_, rfl⟩
                · exact ⟨_, rfl⟩
        · split
          · exact ⟨_, rfl⟩
          · split
            · split
              · exact ⟨_, rfl⟩
              · cases r2 with
                | error b => exact ⟨_, rfl⟩
                | ok x => exact ⟨_, rfl⟩
            · exact ⟨_, rfl⟩
    have hG : ∀ depth i p pos last, t.length ≤ i + n → ∃ f r, argsF f l t depth i p pos last = some r := fun depth i p pos last hi => by
      by_cases hc : last = true ∨ beginsL l (tokL t i) = false
      · exact ⟨1, _, by rw [argsF, if_pos hc]⟩
      · have hlt : i < t.length := begins_lt fun e => hc (.inr e)
        obtain ⟨f1, r1, h1⟩ := hA depth i hi
        cases r1 with
        | error b => exact ⟨f1 + 1, _, by rw [argsF, if_neg hc, h1]⟩
        | ok x =>
          obtain ⟨q, j⟩ := x
          have hj := (fuel_bounds f1).1 _ _ _ _ _ _ h1
          obtain ⟨n', rfl⟩ : ∃ n', n = n' + 1 := ⟨n - 1, by omega⟩
          obtain ⟨f2, r2, h2⟩ := (ih n' (by omega)).2.1 depth j (Pre.app p q pos) pos (lamAt t i) (by omega)
          refine ⟨max f1 f2 + 1, r2, ?_⟩
          rw [argsF, if_neg hc, (fuel_le (Nat.le_max_left f1 f2)).1 _ _ _ _ _ h1]
          exact (fuel_le (Nat.le_max_right f1 f2)).2.1 _ _ _ _ _ _ _ _ h2
    have hC : ∀ least depth i m, t.length ≤ i + n → ∃ f r, chainF f l t least depth i m = some r := fun least depth i m hi => by
      cases ho : opOf l (tokL t i) with
      | none => exact ⟨1, _, by rw [chainF, ho]⟩
      | some o =>
        have hlt := opOf_lt ho
        obtain ⟨n', rfl⟩ : ∃ n', n = n' + 1 := ⟨n - 1, by omega⟩
        obtain ⟨f1, r1, h1⟩ := (ih n' (by omega)).2.2.1 (nextL o) (depth + 1) (i + 1) (by omega)
        cases r1 with
        | error b =>
          refine ⟨f1 + 1, ?_⟩
          rw [chainF, ho]
          simp only
          rw [h1]
          split
          · exact ⟨_, rfl⟩
          · split
            · exact ⟨_, rfl⟩
            · split
              · exact ⟨_, rfl⟩
              · exact ⟨_, rfl⟩
        | ok x =>
          obtain ⟨r, j⟩ := x
          have hj := (fuel_bounds f1).2.2.1 _ _ _ _ _ _ _ h1
          obtain ⟨f2, r2, h2⟩ := (ih n' (by omega)).2.2.2 least depth j ⟨applyL o (tokL t i).pos m.p r.p, some (o, (tokL t i).pos)⟩ (by omega)
          refine ⟨max f1 f2 + 1, ?_⟩
          rw [chainF, ho]
          simp only
          rw [(fuel_le (Nat.le_max_left f1 f2)).2.2.1 _ _ _ _ _ _ h1]
          simp only
          rw [(fuel_le (Nat.le_max_right f1 f2)).2.2.2 _ _ _ _ _ _ _ h2]
          split
          · exact ⟨_, rfl⟩
          · split
            · exact ⟨_, rfl⟩
            · split
              · exact ⟨_, rfl⟩
              · cases hb : r.by_ with
                | none => exact ⟨_, rfl⟩
                | some y =>
                  simp only
                  split
                  · exact ⟨_, rfl⟩
                  · exact ⟨_, rfl⟩
    refine ⟨hA, hG, fun least depth i hi => ?_, hC⟩
    obtain ⟨f1, r1, h1⟩ := hA depth i hi
    cases r1 with
    | error b => exact ⟨f1 + 1, _, by rw [exprF, h1]⟩
    | ok x =>
      obtain ⟨p, j⟩ := x
      have hj := (fuel_bounds f1).1 _ _ _ _ _ _ h1
      obtain ⟨f2, r2, h2⟩ := hG depth j p p.pos (lamAt t i) (by omega)
      cases r2 with
      | error b =>
        refine ⟨max f1 f2 + 1, .error b, ?_⟩
        rw [exprF, (fuel_le (Nat.le_max_left f1 f2)).1 _ _ _ _ _ h1]
        simp only
        rw [(fuel_le (Nat.le_max_right f1 f2)).2.1 _ _ _ _ _ _ _ _ h2]
      | ok y =>
        obtain ⟨q, k⟩ := y
        have hk := (fuel_bounds f2).2.1 _ _ _ _ _ _ _ _ _ h2 hj.2
        obtain ⟨f3, r3, h3⟩ := hC least depth k ⟨q, none⟩ (by omega)
        refine ⟨max (max f1 f2) f3 + 1, r3, ?_⟩
        rw [exprF, (fuel_le (by omega : f1 ≤ max (max f1 f2) f3)).1 _ _ _ _ _ h1]
        simp only
        rw [(fuel_le (by omega : f2 ≤ max (max f1 f2) f3)).2.1 _ _ _ _ _ _ _ _ h2]
        exact (fuel_le (by omega : f3 ≤ max (max f1 f2) f3)).2.2.2 _ _ _ _ _ _ _ h3
theorem Expr.some (l : List OpT) (t : List Tok) (least : Int) (depth i : Nat) : ∃ r, Expr l t least depth i r := by
  obtain ⟨f, r, h⟩ := (fuel_enough l t t.length).2.2.1 least depth i (by omega)
  exact ⟨r, f, h⟩
end Go.Lamb
namespace Go.Lamb
open Go Go.RowKit

inductive Typ where
  | mk (k : Int) (name : List UInt8) (n : Int) (l : List Typ)
  deriving Inhabited
def Typ.k : Typ → Int | .mk k _ _ _ => k
def Typ.name : Typ → List UInt8 | .mk _ s _ _ => s
def Typ.n : Typ → Int | .mk _ _ n _ => n
def Typ.l : Typ → List Typ | .mk _ _ _ l => l
theorem tk_mk (k : Int) (s : List UInt8) (n : Int) (l : List Typ) : (Typ.mk k s n l).k = k := rfl
theorem tname_mk (k : Int) (s : List UInt8) (n : Int) (l : List Typ) : (Typ.mk k s n l).name = s := rfl
theorem tn_mk (k : Int) (s : List UInt8) (n : Int) (l : List Typ) : (Typ.mk k s n l).n = n := rfl
theorem tl_mk (k : Int) (s : List UInt8) (n : Int) (l : List Typ) : (Typ.mk k s n l).l = l := rfl
mutual
def Typ.cs : Typ → List C
  | .mk k s n l => [.int .i64 k, .str s, .int .i64 n, .sl (Typ.rows l)]
def Typ.rows : List Typ → List (List C)
  | [] => []
  | p :: l => p.cs :: Typ.rows l
end
theorem Typ.rows_map (l : List Typ) : Typ.rows l = l.map Typ.cs := by
  induction l with
  | nil => rfl
  | cons p l ih => simp [Typ.rows, ih]
def Typ.v (p : Typ) : V := .agg [.c (.int .i64 p.k), .c (.str p.name), .c (.int .i64 p.n), .c (.sl (p.l.map Typ.cs))]
theorem Typ.cs_eq (p : Typ) : p.cs = [.int .i64 p.k, .str p.name, .int .i64 p.n, .sl (p.l.map Typ.cs)] := by
  cases p
  simp [Typ.cs, Typ.k, Typ.name, Typ.n, Typ.l, Typ.rows_map]
def tysC (l : List Typ) : C := .sl (l.map Typ.cs)
def Typ.none : Typ := .mk 0 [] 0 []
def Typ.con (s : List UInt8) : Typ := .mk 0 s 0 []
def Typ.var (n : Int) : Typ := .mk 1 [] n []
def Typ.arr (a b : Typ) : Typ := .mk 2 [] 0 [a, b]
def Typ.put (u a : Typ) : Typ := .mk u.k u.name u.n (u.l ++ [a])
theorem Typ.ind {P : Typ → Prop} (h : ∀ p, (∀ q ∈ p.l, P q) → P p) : ∀ p, P p
  | .mk k s n l => h _ fun q hq => Typ.ind h q
termination_by p => SizeOf.sizeOf p
decreasing_by
  have := List.sizeOf_lt_of_mem hq
  simp only [Typ.l] at this
  simp only [Typ.mk.sizeOf_spec]
  omega
mutual
/-- The same in all fields? -/
def sameTy : Typ → Typ → Bool
  | .mk k s n l, .mk k' s' n' l' => k == k' && s == s' && n == n' && sameTys l l'
def sameTys : List Typ → List Typ → Bool
  | [], [] => true
  | x :: l, y :: r => sameTy x y && sameTys l r
  | _, _ => false
end
theorem sameTys_zip : ∀ (l r : List Typ), sameTys l r = zipAll sameTy l r
  | [], [] => by simp [sameTys, zipAll]
  | x :: l, y :: r => by rw [sameTys, zipAll, sameTys_zip l r]
  | [], _ :: _ => by simp [sameTys, zipAll]
  | _ :: _, [] => by simp [sameTys, zipAll]
theorem sameTy_eq (p q : Typ) : sameTy p q = (p.k == q.k && p.name == q.name && p.n == q.n && zipAll sameTy p.l q.l) := by
  cases p; cases q
  simp only [sameTy, sameTys_zip, Typ.k, Typ.name, Typ.n, Typ.l]
theorem sameTy_refl : ∀ (p : Typ), sameTy p p = true := Typ.ind fun p ih => by
  rw [sameTy_eq]
  simp only [beq_self_eq_true, Bool.true_and]
  exact zipAll_yes rfl fun j hj _ => ih _ (List.getElem_mem hj)
mutual
/-- What is left of so many types. -/
def leftT : Typ → Int → Int
  | .mk _ _ _ l, n => leftTs l (n - 1)
def leftTs : List Typ → Int → Int
  | [], n => n
  | p :: l, n => if 0 ≤ n then leftTs l (leftT p n) else n
end
mutual
theorem leftT_le : ∀ (p : Typ) (n : Int), 0 ≤ n → -1 ≤ leftT p n ∧ leftT p n ≤ n - 1
  | .mk _ _ _ l, n, h => by rw [leftT]; exact leftTs_le l (n - 1) (by omega)
theorem leftTs_le : ∀ (l : List Typ) (n : Int), -1 ≤ n → -1 ≤ leftTs l n ∧ leftTs l n ≤ n
  | [], n, h => by rw [leftTs]; omega
  | p :: l, n, h => by
    rw [leftTs]
    split
    · rename_i h0
      have h1 := leftT_le p n h0
      have h2 := leftTs_le l (leftT p n) h1.1
      omega
    · omega
end
/-! ### how types are read -/
abbrev Str := List UInt8
/-- A variable's number, by its name; and the names then. -/
def vnum (vs : List Str) (s : Str) : Nat := (vs.findIdx? (· == s)).getD vs.length
def vadd (vs : List Str) (s : Str) : List Str := if (vs.findIdx? (· == s)).isSome then vs else vs ++ [s]
def tyBegins (x : Tok) : Bool := decide (x.kind = 1) || decide (x.kind = 2) || decide (x.kind = 5)
abbrev TyR := Except Bad (Typ × Nat × List Str)
mutual
def tyAtomF : Nat → List Tok → Nat → Nat → List Str → Option TyR
  | 0, _, _, _, _ => none
  | f + 1, t, depth, i, vs =>
    if (tokL t i).kind = 1 then some (.ok (.con (tokL t i).text, i + 1, vs))
    else if (tokL t i).kind = 2 then some (.ok (.var (vnum vs (tokL t i).text), i + 1, vadd vs (tokL t i).text))
    else if (tokL t i).kind = 5 then
      if 200 ≤ depth then some (.error ⟨31, (tokL t i).pos⟩)
      else match tyTypeF f t (depth + 1) (i + 1) vs with
        | none => none
        | some (.error b) => some (.error b)
        | some (.ok (u, j, ws)) => if (tokL t j).kind = 6 then some (.ok (u, j + 1, ws)) else some (.error ⟨50, (tokL t j).pos⟩)
    else some (.error ⟨50, (tokL t i).pos⟩)
/-- More atoms behind a name. -/
def tyArgsF : Nat → List Tok → Nat → Nat → List Str → Typ → Option TyR
  | 0, _, _, _, _, _ => none
  | f + 1, t, depth, i, vs, u =>
    if tyBegins (tokL t i) = false then some (.ok (u, i, vs))
    else match tyAtomF f t depth i vs with
      | none => none
      | some (.error b) => some (.error b)
      | some (.ok (a, j, ws)) => tyArgsF f t depth j ws (u.put a)
/-- An arrow, and what is behind it; or nothing. -/
def tyTailF : Nat → List Tok → Nat → Nat → List Str → Typ → Option TyR
  | 0, _, _, _, _, _ => none
  | f + 1, t, depth, i, vs, u =>
    if (tokL t i).kind = 4 ∧ (tokL t i).text = [45, 62] then
      if 200 ≤ depth then some (.error ⟨31, (tokL t i).pos⟩)
      else match tyTypeF f t (depth + 1) (i + 1) vs with
        | none => none
        | some (.error b) => some (.error b)
        | some (.ok (y, j, ws)) => some (.ok (.arr u y, j, ws))
    else some (.ok (u, i, vs))
def tyTypeF : Nat → List Tok → Nat → Nat → List Str → Option TyR
  | 0, _, _, _, _ => none
  | f + 1, t, depth, i, vs => match tyAtomF f t depth i vs with
    | none => none
    | some (.error b) => some (.error b)
    | some (.ok (u, j, ws)) => match (if (tokL t i).kind = 1 then tyArgsF f t depth j ws u else some (.ok (u, j, ws))) with
      | none => none
      | some (.error b) => some (.error b)
      | some (.ok (v, k, xs)) => tyTailF f t depth k xs v
end
theorem tyBegins_lt {t : List Tok} {i : Nat} (h : tyBegins (tokL t i) ≠ false) : i < t.length := by
  refine tokL_lt fun e => h ?_
  simp [tyBegins, e]
theorem vadd_len (vs : List Str) (s : Str) : (vadd vs s).length ≤ vs.length + 1 := by
  unfold vadd; split <;> simp
theorem ty_bounds : ∀ (f : Nat),
    (∀ t depth i vs u j ws, tyAtomF f t depth i vs = some (.ok (u, j, ws)) → i < j ∧ j ≤ t.length ∧ ws.length + i ≤ vs.length + j) ∧
    (∀ t depth i vs u v j ws, tyArgsF f t depth i vs u = some (.ok (v, j, ws)) → i ≤ t.length → i ≤ j ∧ j ≤ t.length ∧ ws.length + i ≤ vs.length + j) ∧
    (∀ t depth i vs u v j ws, tyTailF f t depth i vs u = some (.ok (v, j, ws)) → i ≤ t.length → i ≤ j ∧ j ≤ t.length ∧ ws.length + i ≤ vs.length + j) ∧
    (∀ t depth i vs u j ws, tyTypeF f t depth i vs = some (.ok (u, j, ws)) → i < j ∧ j ≤ t.length ∧ ws.length + i ≤ vs.length + j)
  | 0 => ⟨fun _ _ _ _ _ _ _ h => by simp [tyAtomF] at h, fun _ _ _ _ _ _ _ _ h => by simp [tyArgsF] at h, fun _ _ _ _ _ _ _ _ h => by simp [tyTailF] at h, fun _ _ _ _ _ _ _ h => by simp [tyTypeF] at h⟩
  | f + 1 => by
    obtain ⟨h1, h2, h3, h4⟩ := ty_bounds f
    refine ⟨fun t depth i vs u j ws h => ?_, fun t depth i vs u v j ws h hi => ?_, fun t depth i vs u v j ws h hi => ?_, fun t depth i vs u j ws h => ?_⟩
    · rw [tyAtomF] at h
      split at h
      · rename_i hk
        have := tokL_lt (t := t) (i := i) (by rw [hk]; decide)
        injection h with h; injection h with h; injection h with _ h; injection h with h h'
        subst h h'; omega
      · split at h
        · rename_i hk
          have := tokL_lt (t := t) (i := i) (by rw [hk]; decide)
          injection h with h; injection h with h; injection h with _ h; injection h with h h'
          subst h h'
          have := vadd_len vs (tokL t i).text
          omega
        · split at h
          · split at h
            · cases h
            · cases he : tyTypeF f t (depth + 1) (i + 1) vs with
              | none => rw [he] at h; cases h
              | some x =>
                rw [he] at h
                cases x with
                | error b => cases h
                | ok x =>
                  obtain ⟨u', k, xs⟩ := x
                  simp only at h
                  split at h
                  · rename_i hk
                    have := tokL_lt (t := t) (i := k) (by rw [hk]; decide)
                    have := h4 _ _ _ _ _ _ _ he
                    injection h with h; injection h with h; injection h with _ h; injection h with h h'
                    subst h h'; omega
                  · cases h
          · cases h
    · rw [tyArgsF] at h
      split at h
      · injection h with h; injection h with h; injection h with _ h; injection h with h h'
        subst h h'; omega
      · cases he : tyAtomF f t depth i vs with
        | none => rw [he] at h; cases h
        | some x =>
          rw [he] at h
          cases x with
          | error b => cases h
          | ok x =>
            obtain ⟨u', k, xs⟩ := x
            simp only at h
            have a1 := h1 _ _ _ _ _ _ _ he
            have a2 := h2 _ _ _ _ _ _ _ _ h a1.2.1
            omega
    · rw [tyTailF] at h
      split at h
      · split at h
        · cases h
        · cases he : tyTypeF f t (depth + 1) (i + 1) vs with
          | none => rw [he] at h; cases h
          | some x =>
            rw [he] at h
            cases x with
            | error b => cases h
            | ok x =>
              obtain ⟨u', k, xs⟩ := x
              simp only at h
              have := h4 _ _ _ _ _ _ _ he
              injection h with h; injection h with h; injection h with _ h; injection h with h h'
              subst h h'; omega
      · injection h with h; injection h with h; injection h with _ h; injection h with h h'
        subst h h'; omega
    · rw [tyTypeF] at h
      cases he : tyAtomF f t depth i vs with
      | none => rw [he] at h; cases h
      | some x =>
        rw [he] at h
        cases x with
        | error b => cases h
        | ok x =>
          obtain ⟨u', k, xs⟩ := x
          simp only at h
          have a1 := h1 _ _ _ _ _ _ _ he
          by_cases hk1 : (tokL t i).kind = 1
          · rw [if_pos hk1] at h
            cases h2e : tyArgsF f t depth k xs u' with
            | none => rw [h2e] at h; cases h
            | some y =>
              rw [h2e] at h
              cases y with
              | error b => cases h
              | ok y =>
                obtain ⟨v', m, ys⟩ := y
                simp only at h
                have a2 := h2 _ _ _ _ _ _ _ _ h2e a1.2.1
                have a3 := h3 _ _ _ _ _ _ _ _ h a2.2.1
                omega
          · rw [if_neg hk1] at h
            have a3 := h3 _ _ _ _ _ _ _ _ h a1.2.1
            omega
/-- With fuel enough there is an answer. -/
theorem ty_some : ∀ (f : Nat),
    (∀ t depth i vs, 4 * (t.length - i) + 1 ≤ f → ∃ r, tyAtomF f t depth i vs = some r) ∧
    (∀ t depth i vs u, 4 * (t.length - i) + 2 ≤ f → ∃ r, tyArgsF f t depth i vs u = some r) ∧
    (∀ t depth i vs u, 4 * (t.length - i) + 2 ≤ f → ∃ r, tyTailF f t depth i vs u = some r) ∧
    (∀ t depth i vs, 4 * (t.length - i) + 3 ≤ f → ∃ r, tyTypeF f t depth i vs = some r)
  | 0 => ⟨fun _ _ _ _ h => by omega, fun _ _ _ _ _ h => by omega, fun _ _ _ _ _ h => by omega, fun _ _ _ _ h => by omega⟩
  | f + 1 => by
    obtain ⟨h1, h2, h3, h4⟩ := ty_some f
    refine ⟨fun t depth i vs h => ?_, fun t depth i vs u h => ?_, fun t depth i vs u h => ?_, fun t depth i vs h => ?_⟩
    · rw [tyAtomF]
      split
      · exact ⟨_, rfl⟩
      · split
        · exact ⟨_, rfl⟩
        · split
          · rename_i hk
            have := tokL_lt (t := t) (i := i) (by rw [hk]; decide)
            split
            · exact ⟨_, rfl⟩
            · obtain ⟨r, hr⟩ := h4 t (depth + 1) (i + 1) vs (by omega)
              rw [hr]
              cases r with
              | error b => exact ⟨_, rfl⟩
              | ok x =>
                obtain ⟨u, j, ws⟩ := x
                simp only
                split <;> exact ⟨_, rfl⟩
          · exact ⟨_, rfl⟩
    · rw [tyArgsF]
      split
      · exact ⟨_, rfl⟩
      · rename_i hb
        have hlt := tyBegins_lt hb
        obtain ⟨r, hr⟩ := h1 t depth i vs (by omega)
        rw [hr]
        cases r with
        | error b => exact ⟨_, rfl⟩
        | ok x =>
          obtain ⟨u', j, ws⟩ := x
          have := (ty_bounds f).1 _ _ _ _ _ _ _ hr
          exact h2 t depth j ws _ (by omega)
    · rw [tyTailF]
      split
      · rename_i hk
        have := tokL_lt (t := t) (i := i) (by rw [hk.1]; decide)
        split
        · exact ⟨_, rfl⟩
        · obtain ⟨r, hr⟩ := h4 t (depth + 1) (i + 1) vs (by omega)
          rw [hr]
          cases r with
          | error b => exact ⟨_, rfl⟩
          | ok x => exact ⟨_, rfl⟩
      · exact ⟨_, rfl⟩
    · rw [tyTypeF]
      obtain ⟨r, hr⟩ := h1 t depth i vs (by omega)
      rw [hr]
      cases r with
      | error b => exact ⟨_, rfl⟩
      | ok x =>
        obtain ⟨u, j, ws⟩ := x
        have hb := (ty_bounds f).1 _ _ _ _ _ _ _ hr
        simp only
        by_cases hk1 : (tokL t i).kind = 1
        · rw [if_pos hk1]
          obtain ⟨r2, hr2⟩ := h2 t depth j ws u (by omega)
          rw [hr2]
          cases r2 with
          | error b => exact ⟨_, rfl⟩
          | ok y =>
            obtain ⟨v, k, xs⟩ := y
            have hb2 := (ty_bounds f).2.1 _ _ _ _ _ _ _ _ hr2 hb.2.1
            exact h3 t depth k xs v (by omega)
        · rw [if_neg hk1]
          exact h3 t depth j ws u (by omega)
/-- More fuel changes nothing. -/
theorem ty_more : ∀ (f : Nat),
    (∀ t depth i vs r, tyAtomF f t depth i vs = some r → tyAtomF (f + 1) t depth i vs = some r) ∧
    (∀ t depth i vs u r, tyArgsF f t depth i vs u = some r → tyArgsF (f + 1) t depth i vs u = some r) ∧
    (∀ t depth i vs u r, tyTailF f t depth i vs u = some r → tyTailF (f + 1) t depth i vs u = some r) ∧
    (∀ t depth i vs r, tyTypeF f t depth i vs = some r → tyTypeF (f + 1) t depth i vs = some r)
  | 0 => ⟨fun _ _ _ _ _ h => by simp [tyAtomF] at h, fun _ _ _ _ _ _ h => by simp [tyArgsF] at h, fun _ _ _ _ _ _ h => by simp [tyTailF] at h, fun _ _ _ _ _ h => by simp [tyTypeF] at h⟩
  | f + 1 => by
    obtain ⟨h1, h2, h3, h4⟩ := ty_more f
    refine ⟨fun t depth i vs r h => ?_, fun t depth i vs u r h => ?_, fun t depth i vs u r h => ?_, fun t depth i vs r h => ?_⟩
    · rw [tyAtomF] at h ⊢
      split
      · rename_i c; rw [if_pos c] at h; exact h
      · rename_i c; rw [if_neg c] at h
        split
        · rename_i c2; rw [if_pos c2] at h; exact h
        · rename_i c2; rw [if_neg c2] at h
          split
          · rename_i c3; rw [if_pos c3] at h
            split
            · rename_i c4; rw [if_pos c4] at h; exact h
            · rename_i c4; rw [if_neg c4] at h
              cases he : tyTypeF f t (depth + 1) (i + 1) vs with
              | none => rw [he] at h; cases h
              | some x => rw [he] at h; rw [h4 _ _ _ _ _ he]; exact h
          · rename_i c3; rw [if_neg c3] at h; exact h
    · rw [tyArgsF] at h ⊢
      split
      · rename_i c; rw [if_pos c] at h; exact h
      · rename_i c; rw [if_neg c] at h
        cases he : tyAtomF f t depth i vs with
        | none => rw [he] at h; cases h
        | some x =>
          rw [he] at h; rw [h1 _ _ _ _ _ he]
          cases x with
          | error b => exact h
          | ok x => exact h2 _ _ _ _ _ _ h
    · rw [tyTailF] at h ⊢
      split
      · rename_i c; rw [if_pos c] at h
        split
        · rename_i c4; rw [if_pos c4] at h; exact h
        · rename_i c4; rw [if_neg c4] at h
          cases he : tyTypeF f t (depth + 1) (i + 1) vs with
          | none => rw [he] at h; cases h
          | some x => rw [he] at h; rw [h4 _ _ _ _ _ he]; exact h
      · rename_i c; rw [if_neg c] at h; exact h
    · rw [tyTypeF] at h ⊢
      cases he : tyAtomF f t depth i vs with
      | none => rw [he] at h; cases h
      | some x =>
        rw [he] at h; rw [h1 _ _ _ _ _ he]
        cases x with
        | error b => exact h
        | ok x =>
          obtain ⟨u, j, ws⟩ := x
          simp only at h ⊢
          by_cases c : (tokL t i).kind = 1
          · rw [if_pos c] at h ⊢
            cases hg : tyArgsF f t depth j ws u with
            | none => rw [hg] at h; cases h
            | some y =>
              rw [hg] at h; rw [h2 _ _ _ _ _ _ hg]
              cases y with
              | error b => exact h
              | ok y => exact h3 _ _ _ _ _ _ h
          · rw [if_neg c] at h ⊢
            exact h3 _ _ _ _ _ _ h
theorem ty_le {f g : Nat} (h : f ≤ g) {t : List Tok} {depth i : Nat} {vs : List Str} {r : TyR} (hf : tyTypeF f t depth i vs = some r) : tyTypeF g t depth i vs = some r := by
  induction h with
  | refl => exact hf
  | step _ ih => exact (ty_more _).2.2.2 _ _ _ _ _ ih
/-- A type is read so. -/
def TyRead (t : List Tok) (i : Nat) (r : TyR) : Prop := ∃ f, tyTypeF f t 0 i [] = some r
theorem TyRead.some (t : List Tok) (i : Nat) : ∃ r, TyRead t i r := by
  obtain ⟨r, hr⟩ := (ty_some (4 * (t.length - i) + 3)).2.2.2 t 0 i [] (Nat.le_refl _)
  exact ⟨r, _, hr⟩
theorem TyRead.one {t : List Tok} {i : Nat} {r r' : TyR} (h : TyRead t i r) (k : TyRead t i r') : r = r' := by
  obtain ⟨f, hf⟩ := h
  obtain ⟨g, hg⟩ := k
  have a := ty_le (Nat.le_max_left f g) hf
  have b := ty_le (Nat.le_max_right f g) hg
  exact Option.some.inj (a.symm.trans b)
end Go.Lamb
namespace Go.Lamb
open Go Go.RowKit

def strsC (l : List Str) : C := .sl (l.map fun s => [C.str s])
structure Sent where
  k : Int
  names : List Str
  n : Int
  ty : Typ
  op : OpT
  body : Pre
  pos : Int
def Sent.none : Sent := ⟨0, [], 0, .none, .zero, .none, 0⟩
def Sent.v (s : Sent) : V := .agg [I s.k, .c (strsC s.names), I s.n, I s.ty.k, S s.ty.name, I s.ty.n, .c (tysC s.ty.l), S s.op.name, I s.op.prec, I s.op.fix, I s.body.k, S s.body.name, I s.body.n, .c (.sl (s.body.l.map Pre.cs)), I s.body.pos, I s.pos]
def Sent.cs (s : Sent) : List C := [.int .i64 s.k, strsC s.names, .int .i64 s.n, .int .i64 s.ty.k, .str s.ty.name, .int .i64 s.ty.n, tysC s.ty.l, .str s.op.name, .int .i64 s.op.prec, .int .i64 s.op.fix, .int .i64 s.body.k, .str s.body.name, .int .i64 s.body.n, .sl (s.body.l.map Pre.cs), .int .i64 s.body.pos, .int .i64 s.pos]
def sentsC (l : List Sent) : C := .sl (l.map Sent.cs)

/-! ### what is read, without fuel -/
open Classical in
noncomputable def tyT (t : List Tok) (i : Nat) : TyR := Classical.choose (TyRead.some t i)
theorem tyT_is (t : List Tok) (i : Nat) : TyRead t i (tyT t i) := Classical.choose_spec (TyRead.some t i)
noncomputable def exprT (l : List OpT) (t : List Tok) (i : Nat) : Except Bad (Made × Nat) := Classical.choose (Expr.some l t 0 0 i)
theorem exprT_is (l : List OpT) (t : List Tok) (i : Nat) : Lamb.Expr l t 0 0 i (exprT l t i) := Classical.choose_spec (Expr.some l t 0 0 i)
/-- May a name stand here? (s: or a symbol.) -/
def nameHere (s : Bool) (x : Tok) : Bool := x.kind == 1 || (s && x.kind == 4)
def commaHere (x : Tok) : Bool := x.kind == 4 && x.text == [44]
def arrowHere (x : Tok) : Bool := x.kind == 4 && x.text == [45, 62]
def typeHere (x : Tok) : Bool := x.kind == 1 && x.text == [116, 121, 112, 101]
def namesF : Nat → List Tok → Bool → Nat → List Tok → Except Bad (List Tok × Nat)
  | 0, t, _, i, _ => .error ⟨100, (tokL t i).pos⟩
  | f + 1, t, s, i, acc =>
    if nameHere s (tokL t i) = true then
      if commaHere (tokL t (i + 1)) = true then namesF f t s (i + 2) (acc ++ [tokL t i]) else .ok (acc ++ [tokL t i], i + 1)
    else .error ⟨100, (tokL t i).pos⟩
def namesS (t : List Tok) (s : Bool) (i : Nat) (acc : List Tok) : Except Bad (List Tok × Nat) := namesF (t.length - i) t s i acc
theorem tokL_far {t : List Tok} {i : Nat} (h : t.length ≤ i) : (tokL t i).kind = 0 := by rw [tokL, List.getElem?_eq_none h]; rfl
theorem nameHere_far {t : List Tok} {i : Nat} (s : Bool) (h : t.length ≤ i) : nameHere s (tokL t i) = false := by simp [nameHere, tokL_far h]
theorem namesF_enough : ∀ (f : Nat) (t : List Tok) (s : Bool) (i : Nat) (acc : List Tok), t.length - i ≤ f → namesF f t s i acc = namesS t s i acc
  | f, t, s, i, acc, h => by
    unfold namesS
    generalize hg : t.length - i = g at h
    induction g using Nat.strongRecOn generalizing f i acc with
    | ind g ih =>
      cases g with
      | zero =>
        cases f with
        | zero => rfl
        | succ f => rw [namesF, namesF, nameHere_far s (by omega)]; simp
      | succ g =>
        cases f with
        | zero => omega
        | succ f =>
          rw [namesF, namesF]
          by_cases hn : nameHere s (tokL t i) = true
          · rw [if_pos hn, if_pos hn]
            by_cases hc : commaHere (tokL t (i + 1)) = true
            · rw [if_pos hc, if_pos hc, ih (t.length - (i + 2)) (by omega) f (i + 2) _ rfl (by omega), ih (t.length - (i + 2)) (by omega) g (i + 2) _ rfl (by omega)]
            · rw [if_neg hc, if_neg hc]
          · rw [if_neg hn, if_neg hn]
theorem namesS_eq (t : List Tok) (s : Bool) (i : Nat) (acc : List Tok) : namesS t s i acc = if nameHere s (tokL t i) = true then (if commaHere (tokL t (i + 1)) = true then namesS t s (i + 2) (acc ++ [tokL t i]) else .ok (acc ++ [tokL t i], i + 1)) else .error ⟨100, (tokL t i).pos⟩ := by
  rw [← namesF_enough (t.length - i + 1) t s i acc (by omega), namesF, namesF_enough _ t s (i + 2) _ (by omega)]
/-- How many arrows are behind the first 'type'. -/
def kindF : Nat → List Tok → Nat → Nat → Except Bad (Nat × Nat)
  | 0, t, i, _ => .error ⟨100, (tokL t i).pos⟩
  | f + 1, t, i, n =>
    if typeHere (tokL t i) = true then
      if arrowHere (tokL t (i + 1)) = true then kindF f t (i + 2) (n + 1) else .ok (n, i + 1)
    else .error ⟨100, (tokL t i).pos⟩
def kindS (t : List Tok) (i n : Nat) : Except Bad (Nat × Nat) := kindF (t.length - i) t i n
theorem typeHere_far {t : List Tok} {i : Nat} (h : t.length ≤ i) : typeHere (tokL t i) = false := by simp [typeHere, tokL_far h]
theorem kindF_enough : ∀ (f : Nat) (t : List Tok) (i n : Nat), t.length - i ≤ f → kindF f t i n = kindS t i n
  | f, t, i, n, h => by
    unfold kindS
    generalize hg : t.length - i = g at h
    induction g using Nat.strongRecOn generalizing f i n with
    | ind g ih =>
      cases g with
      | zero =>
        cases f with
        | zero => rfl
        | succ f => rw [kindF, kindF, typeHere_far (by omega)]; simp
      | succ g =>
        cases f with
        | zero => omega
        | succ f =>
          rw [kindF, kindF]
          by_cases hn : typeHere (tokL t i) = true
          · rw [if_pos hn, if_pos hn]
            by_cases hc : arrowHere (tokL t (i + 1)) = true
            · rw [if_pos hc, if_pos hc, ih (t.length - (i + 2)) (by omega) f (i + 2) _ rfl (by omega), ih (t.length - (i + 2)) (by omega) g (i + 2) _ rfl (by omega)]
            · rw [if_neg hc, if_neg hc]
          · rw [if_neg hn, if_neg hn]
theorem kindS_eq (t : List Tok) (i n : Nat) : kindS t i n = if typeHere (tokL t i) = true then (if arrowHere (tokL t (i + 1)) = true then kindS t (i + 2) (n + 1) else .ok (n, i + 1)) else .error ⟨100, (tokL t i).pos⟩ := by
  rw [← kindF_enough (t.length - i + 1) t i n (by omega), kindF, kindF_enough _ t (i + 2) _ (by omega)]

/-- What is wrong with an operator; 0: nothing. -/
def reservedL (s : Str) : Bool := s == [33] || s == [45, 62] || s == [107, 105, 110, 100] || s == [116, 121, 112, 101] || s == [105, 110, 102, 105, 120] || s == [105, 110, 102, 105, 120, 108] || s == [105, 110, 102, 105, 120, 114]
def wrongL (l : List OpT) (o : OpT) : Int :=
  if o.fix < 0 ∨ 2 < o.fix then 1
  else if (isNameB o.name = false ∧ isSymB o.name = false) ∨ reservedL o.name = true then 20
  else if o.prec < 1 ∨ 200 < o.prec then 21
  else if (findL l o.name).isSome = true then 22
  else if 64 ≤ l.length then 23
  else 0
/-- Operators, one by one, with their names' places. -/
def declL (prec fix : Int) : List OpT → List Tok → Except Bad (List OpT)
  | l, [] => .ok l
  | l, x :: r => if wrongL l ⟨x.text, prec, fix⟩ = 0 then declL prec fix (l ++ [⟨x.text, prec, fix⟩]) r else .error ⟨wrongL l ⟨x.text, prec, fix⟩, x.pos⟩

abbrev SoR := Except Bad (Sent × Nat × List OpT)
def endS (t : List Tok) (s : Sent) (i : Nat) (l : List OpT) : SoR := if (tokL t i).kind = 7 then .ok (s, i + 1, l) else .error ⟨101, (tokL t i).pos⟩
def kindSent (t : List Tok) (i : Nat) (pos : Int) (l : List OpT) : SoR := match namesS t false i [] with
  | .error b => .error b
  | .ok (ns, j) => match kindS t j 0 with
    | .error b => .error b
    | .ok (n, k) => endS t ⟨0, ns.map (·.text), n, .none, .zero, .none, pos⟩ k l
noncomputable def typeSent (t : List Tok) (i : Nat) (pos : Int) (l : List OpT) : SoR := match namesS t true i [] with
  | .error b => .error b
  | .ok (ns, j) => match tyT t j with
    | .error b => .error b
    | .ok (u, k, _) => endS t ⟨1, ns.map (·.text), 0, u, .zero, .none, pos⟩ k l
def opSent (t : List Tok) (i : Nat) (pos : Int) (fix : Int) (l : List OpT) : SoR := match namesS t true i [] with
  | .error b => .error b
  | .ok (ns, j) =>
    if (tokL t j).kind = 3 then
      if (tokL t (j + 1)).kind = 7 then
        match declL (tokL t j).n fix l ns with
        | .error b => .error b
        | .ok l' => .ok (⟨2, ns.map (·.text), 0, .none, ⟨[], (tokL t j).n, fix⟩, .none, pos⟩, j + 2, l')
      else .error ⟨101, (tokL t (j + 1)).pos⟩
    else .error ⟨100, (tokL t j).pos⟩
noncomputable def clauseSent (t : List Tok) (i : Nat) (pos : Int) (l : List OpT) : SoR := match exprT l t i with
  | .error b => .error b
  | .ok (m, k) => endS t ⟨3, [], 0, .none, .zero, m.p, pos⟩ k l
noncomputable def sentS (t : List Tok) (l : List OpT) (i : Nat) : SoR :=
  let x := tokL t i
  if x.kind = 1 ∧ x.text = [107, 105, 110, 100] then kindSent t (i + 1) x.pos l
  else if x.kind = 1 ∧ x.text = [116, 121, 112, 101] then typeSent t (i + 1) x.pos l
  else if x.kind = 1 ∧ x.text = [105, 110, 102, 105, 120] then opSent t (i + 1) x.pos 0 l
  else if x.kind = 1 ∧ x.text = [105, 110, 102, 105, 120, 108] then opSent t (i + 1) x.pos 1 l
  else if x.kind = 1 ∧ x.text = [105, 110, 102, 105, 120, 114] then opSent t (i + 1) x.pos 2 l
  else clauseSent t i x.pos l
noncomputable def allF : Nat → List Tok → List OpT → Nat → List Sent → Except Bad (List Sent × List OpT)
  | 0, _, l, _, acc => .ok (acc, l)
  | f + 1, t, l, i, acc =>
    if (tokL t i).kind = 0 then .ok (acc, l)
    else match sentS t l i with
      | .error b => .error b
      | .ok (s, j, l') => allF f t l' j (acc ++ [s])
noncomputable def allS (t : List Tok) (l : List OpT) (i : Nat) (acc : List Sent) : Except Bad (List Sent × List OpT) := allF (t.length - i) t l i acc

theorem namesS_far {t : List Tok} {s : Bool} : ∀ (n i : Nat) (acc : List Tok) (r : List Tok) (j : Nat), t.length - i ≤ n → namesS t s i acc = .ok (r, j) → i < j ∧ j ≤ t.length
  | n, i, acc, r, j, hn, h => by
    induction n using Nat.strongRecOn generalizing i acc with
    | ind n ih =>
      rw [namesS_eq] at h
      split at h
      · rename_i h1
        have hi : i < t.length := tokL_lt fun e => by rw [nameHere, e] at h1; simp at h1
        split at h
        · rename_i h2
          have hi2 : i + 1 < t.length := tokL_lt fun e => by rw [commaHere, e] at h2; simp at h2
          have := ih (t.length - (i + 2)) (by omega) (i + 2) _ (Nat.le_refl _) h
          omega
        · injection h with h; injection h with _ h
          omega
      · cases h
theorem kindS_far {t : List Tok} : ∀ (n i m r : Nat) (j : Nat), t.length - i ≤ n → kindS t i m = .ok (r, j) → i < j ∧ j ≤ t.length
  | n, i, m, r, j, hn, h => by
    induction n using Nat.strongRecOn generalizing i m with
    | ind n ih =>
      rw [kindS_eq] at h
      split at h
      · rename_i h1
        have hi : i < t.length := tokL_lt fun e => by rw [typeHere, e] at h1; simp at h1
        split at h
        · rename_i h2
          have hi2 : i + 1 < t.length := tokL_lt fun e => by rw [arrowHere, e] at h2; simp at h2
          have := ih (t.length - (i + 2)) (by omega) (i + 2) _ (Nat.le_refl _) h
          omega
        · injection h with h; injection h with _ h
          omega
      · cases h
theorem tyT_far {t : List Tok} {i : Nat} {u : Typ} {j : Nat} {ws : List Str} (h : tyT t i = .ok (u, j, ws)) : i < j ∧ j ≤ t.length := by
  obtain ⟨f, hf⟩ := tyT_is t i
  rw [h] at hf
  have := (ty_bounds f).2.2.2 _ _ _ _ _ _ _ hf
  omega
theorem exprT_far {l : List OpT} {t : List Tok} {i : Nat} {m : Made} {j : Nat} (h : exprT l t i = .ok (m, j)) : i < j ∧ j ≤ t.length := by
  obtain ⟨f, hf⟩ := exprT_is l t i
  rw [h] at hf
  exact (fuel_bounds f).2.2.1 _ _ _ _ _ _ _ hf
theorem endS_far {t : List Tok} {s s' : Sent} {i j : Nat} {l l' : List OpT} (h : endS t s i l = .ok (s', j, l')) : j = i + 1 ∧ j ≤ t.length := by
  unfold endS at h
  split at h
  · rename_i hk
    have := tokL_lt (t := t) (i := i) (by rw [hk]; decide)
    injection h with h; injection h with _ h; injection h with h _
    omega
  · cases h
theorem sentS_far {t : List Tok} {l l' : List OpT} {i j : Nat} {s : Sent} (h : sentS t l i = .ok (s, j, l')) : i < j ∧ j ≤ t.length := by
  have hop : ∀ fix, opSent t (i + 1) (tokL t i).pos fix l = .ok (s, j, l') → i < j ∧ j ≤ t.length := fun fix h => by
    unfold opSent at h
    split at h
    · cases h
    · rename_i ns k hn
      have := namesS_far _ _ _ _ _ (Nat.le_refl _) hn
      split at h
      · split at h
        · rename_i hk
          have := tokL_lt (t := t) (i := k + 1) (by rw [hk]; decide)
          split at h
          · cases h
          · injection h with h; injection h with _ h; injection h with h _
            omega
        · cases h
      · cases h
  unfold sentS at h
  simp only at h
  split at h
  · unfold kindSent at h
    split at h
    · cases h
    · rename_i ns k hn
      have := namesS_far _ _ _ _ _ (Nat.le_refl _) hn
      split at h
      · cases h
      · rename_i n m hk
        have := kindS_far _ _ _ _ _ (Nat.le_refl _) hk
        have := endS_far h
        omega
  · split at h
    · unfold typeSent at h
      split at h
      · cases h
      · rename_i ns k hn
        have := namesS_far _ _ _ _ _ (Nat.le_refl _) hn
        split at h
        · cases h
        · rename_i u m ws hk
          have := tyT_far hk
          have := endS_far h
          omega
    · split at h
      · exact hop _ h
      · split at h
        · exact hop _ h
        · split at h
          · exact hop _ h
          · unfold clauseSent at h
            split at h
            · cases h
            · rename_i m k hk
              have := exprT_far hk
              have := endS_far h
              omega
theorem allF_enough : ∀ (f : Nat) (t : List Tok) (l : List OpT) (i : Nat) (acc : List Sent), t.length - i ≤ f → allF f t l i acc = allS t l i acc
  | f, t, l, i, acc, h => by
    unfold allS
    generalize hg : t.length - i = g at h
    induction g using Nat.strongRecOn generalizing f i acc l with
    | ind g ih =>
      cases g with
      | zero =>
        cases f with
        | zero => rfl
        | succ f => rw [allF, allF, if_pos (tokL_far (by omega))]
      | succ g =>
        cases f with
        | zero => omega
        | succ f =>
          rw [allF, allF]
          by_cases hn : (tokL t i).kind = 0
          · rw [if_pos hn, if_pos hn]
          · rw [if_neg hn, if_neg hn]
            cases hs : sentS t l i with
            | error b => rfl
            | ok x =>
              obtain ⟨s, j, l'⟩ := x
              have := sentS_far hs
              simp only
              rw [ih (t.length - j) (by omega) f l' j _ rfl (by omega), ih (t.length - j) (by omega) g l' j _ rfl (by omega)]
theorem allS_eq (t : List Tok) (l : List OpT) (i : Nat) (acc : List Sent) : allS t l i acc = if (tokL t i).kind = 0 then .ok (acc, l) else match sentS t l i with
      | .error b => .error b
      | .ok (s, j, l') => allS t l' j (acc ++ [s]) := by
  rw [← allF_enough (t.length - i + 1) t l i acc (by omega), allF]
  cases hs : sentS t l i with
  | error b => rfl
  | ok x =>
    obtain ⟨s, j, l'⟩ := x
    have := sentS_far hs
    simp only
    rw [allF_enough _ t l' j _ (by omega)]
end Go.Lamb
namespace Go.Lamb
open Go Go.RowKit

def arrowT (p : Typ) : Bool := p.k == 2 && p.l.length == 2
mutual
def validT : Typ → Bool
  | .mk k s n l => (if k = 0 then isNameB s && n == 0 else if k = 1 then s == [] && decide (0 ≤ n) && decide (n ≤ 4611686018427387904) && l.length == 0 else if k = 2 then s == [] && n == 0 && l.length == 2 else false) && validTs l
def validTs : List Typ → Bool
  | [] => true
  | x :: l => validT x && validTs l
end
def nodeT (p : Typ) : Bool := if p.k = 0 then isNameB p.name && p.n == 0 else if p.k = 1 then p.name == [] && decide (0 ≤ p.n) && decide (p.n ≤ 4611686018427387904) && p.l.length == 0 else if p.k = 2 then p.name == [] && p.n == 0 && p.l.length == 2 else false
theorem validTs_all : ∀ (l : List Typ), validTs l = l.all validT
  | [] => by simp [validTs]
  | x :: l => by rw [validTs, List.all_cons, validTs_all l]
theorem validT_eq (p : Typ) : validT p = (nodeT p && p.l.all validT) := by
  cases p
  rw [validT, validTs_all]
  rfl
/-- Things in front of an arrow, one by one. -/
def arrows (l : List Typ) (u : Typ) : Typ := l.foldr Typ.arr u
theorem arrow_parts {p : Typ} (h : arrowT p = true) : ∃ a b, p.l = [a, b] := by
  simp only [arrowT, Bool.and_eq_true, beq_iff_eq] at h
  match hp : p.l with
  | [a, b] => exact ⟨a, b, rfl⟩
  | [] => rw [hp] at h; simp at h
  | [_] => rw [hp] at h; simp at h
  | _ :: _ :: _ :: _ => rw [hp] at h; simp at h
mutual
def depthT : Typ → Nat
  | .mk _ _ _ l => depthTs l + 1
def depthTs : List Typ → Nat
  | [] => 0
  | x :: l => max (depthT x) (depthTs l)
end
end Go.Lamb
namespace Go.Lamb
open Go Go.RowKit

def putL (s : Str) (b : Bool) : Str := if b then 40 :: (s ++ [41]) else s
def varL (n : Int) : Str := (UInt8.ofNat (65 + n % 26).toNat) :: (if 0 < n / 26 then Lib.itoa (n / 26) else [])
def manyT (p : Typ) : Bool := p.k != 1 && decide (0 < p.l.length)
mutual
def textT : Typ → Str
  | .mk k s n l => if k = 1 then (if n < 0 then [63] else varL n) else if k = 2 ∧ l.length = 2 then textA l else Lib.join (s :: textTs l) [32]
def textTs : List Typ → List Str
  | [] => []
  | x :: l => putL (textT x) (manyT x) :: textTs l
def textA : List Typ → Str
  | [] => []
  | x :: l => putL (textT x) (arrowT x) ++ textB l
def textB : List Typ → Str
  | [] => []
  | x :: _ => [32, 45, 62, 32] ++ textT x
end
theorem textTs_map : ∀ l : List Typ, textTs l = l.map fun x => putL (textT x) (manyT x)
  | [] => by simp [textTs]
  | x :: l => by rw [textTs, textTs_map l, List.map_cons]
theorem textT_eq (p : Typ) : textT p = if p.k = 1 then (if p.n < 0 then [63] else varL p.n) else if p.k = 2 ∧ p.l.length = 2 then textA p.l else Lib.join (p.name :: p.l.map fun x => putL (textT x) (manyT x)) [32] := by
  cases p
  rw [textT, textTs_map]
  rfl
theorem textA_two (a b : Typ) : textA [a, b] = putL (textT a) (arrowT a) ++ ([32, 45, 62, 32] ++ textT b) := by
  rw [textA, textB]
mutual
def sizeT : Typ → Nat
  | .mk k _ _ l => if k = 1 then 1 else 1 + sizeTs l
def sizeTs : List Typ → Nat
  | [] => 0
  | x :: l => sizeT x + sizeTs l
end
def varMax (n v : Int) : Int := if IntKind.i64.wrap ((if -1 > v then -1 else v) + 1) > n then IntKind.i64.wrap ((if -1 > v then -1 else v) + 1) else n
mutual
/-- One more than the greatest variable, from n on. -/
def varsT : Int → Typ → Int
  | m, .mk k _ n l => if k = 1 then varMax m n else varsTs m l
def varsTs : Int → List Typ → Int
  | m, [] => m
  | m, x :: l => varsTs (varsT m x) l
end
mutual
/-- A type with nothing in the place of variables. -/
def noneT : Typ → Typ
  | .mk k s n l => if k = 1 then .none else .mk (if k = 2 ∧ l.length = 2 then 2 else 0) (if k = 2 ∧ l.length = 2 then [] else s) 0 (noneTs l)
def noneTs : List Typ → List Typ
  | [] => []
  | x :: l => noneT x :: noneTs l
end
end Go.Lamb
namespace Go.Lamb
open Go Go.RowKit

def inI (n : Int) : Prop := -9223372036854775808 ≤ n ∧ n ≤ 9223372036854775807
inductive OkT : Typ → Prop where
  | mk {k : Int} {s : Str} {n : Int} {l : List Typ} (hk : inI k) (hn : inI n) (h : ∀ x ∈ l, OkT x) : OkT (.mk k s n l)
instance (n : Int) : Decidable (inI n) := inferInstanceAs (Decidable (_ ∧ _))
theorem OkT.n {p : Typ} (h : OkT p) : inI p.n := by cases h; assumption
theorem OkT.k {p : Typ} (h : OkT p) : inI p.k := by cases h; assumption
theorem OkT.mem {p x : Typ} (h : OkT p) (hx : x ∈ p.l) : OkT x := by
  cases h with
  | mk _ _ h => exact h x hx
theorem lens_mem {y : Str} : ∀ {r : List Str}, y ∈ r → y.length ≤ Lib.lens r
  | [], h => by simp at h
  | x :: r, h => by
    have e : Lib.lens (x :: r) = x.length + Lib.lens r := by simp [Lib.lens]
    rw [e]
    rcases List.mem_cons.1 h with rfl | h
    · omega
    · have := lens_mem h; omega
theorem join_len (a : Str) (r : List Str) : (Lib.join (a :: r) [32]).length = a.length + (r.length + Lib.lens r) := by
  rw [Lib.join_cons, List.length_append, Lib.joinTail_length]
  simp
theorem putL_len (s : Str) (b : Bool) : s.length ≤ (putL s b).length ∧ (putL s b).length ≤ s.length + 2 := by
  unfold putL
  split <;> simp
  omega
theorem text_var {p : Typ} (h : p.k = 1) : textT p = if p.n < 0 then [63] else varL p.n := by rw [textT_eq, if_pos h]
theorem text_arr {p a b : Typ} (hA : arrowT p = true) (hl : p.l = [a, b]) : textT p = putL (textT a) (arrowT a) ++ ([32, 45, 62, 32] ++ textT b) := by
  have hA' := hA
  simp only [arrowT, Bool.and_eq_true, beq_iff_eq] at hA'
  rw [textT_eq, if_neg (by rw [hA'.1]; decide), if_pos hA', hl, textA_two]
theorem text_con {p : Typ} (hk : p.k ≠ 1) (hA : arrowT p = false) : textT p = Lib.join (p.name :: p.l.map fun x => putL (textT x) (manyT x)) [32] := by
  rw [textT_eq, if_neg hk, if_neg]
  intro h
  rw [arrowT, h.1, h.2] at hA
  cases hA
theorem text_con_len {p : Typ} (hk : p.k ≠ 1) (hA : arrowT p = false) : p.name.length + p.l.length ≤ (textT p).length ∧ ∀ x ∈ p.l, (putL (textT x) (manyT x)).length ≤ (textT p).length ∧ (textT x).length ≤ (textT p).length := by
  rw [text_con hk hA, join_len, List.length_map]
  refine ⟨by omega, fun x hx => ?_⟩
  have h1 := lens_mem (List.mem_map_of_mem (f := fun x => putL (textT x) (manyT x)) hx)
  have h2 := (putL_len (textT x) (manyT x)).1
  try simp only at h1
  omega
theorem text_arr_len {p a b : Typ} (hA : arrowT p = true) (hl : p.l = [a, b]) : (putL (textT a) (arrowT a)).length + (textT b).length + 4 = (textT p).length ∧ (textT a).length ≤ (textT p).length := by
  rw [text_arr hA hl]
  have := (putL_len (textT a) (arrowT a)).1
  simp only [List.length_append, List.length_cons, List.length_nil]
  omega
end Go.Lamb
namespace Go.Lamb
open Go Go.RowKit

mutual
def nodesT : Typ → Nat
  | .mk _ _ _ l => 1 + nodesTs l
def nodesTs : List Typ → Nat
  | [] => 0
  | x :: l => nodesT x + nodesTs l
end
mutual
theorem left_nodes : ∀ (p : Typ) (n : Int), 0 ≤ leftT p n → leftT p n = n - (nodesT p : Nat)
  | .mk _ _ _ l, n, h => by
    rw [leftT] at h ⊢
    rw [lefts_nodes l (n - 1) h, nodesT]
    omega
theorem lefts_nodes : ∀ (l : List Typ) (n : Int), 0 ≤ leftTs l n → leftTs l n = n - (nodesTs l : Nat)
  | [], n, h => by rw [leftTs, nodesTs]; omega
  | x :: l, n, h => by
    rw [leftTs] at h ⊢
    split at h
    · rename_i h0
      rw [if_pos h0]
      have h1 := lefts_nodes l _ h
      have h3 := left_nodes x n (by omega)
      rw [nodesTs]
      omega
    · omega
end
mutual
theorem depth_nodes : ∀ p : Typ, depthT p ≤ nodesT p
  | .mk _ _ _ l => by rw [depthT, nodesT]; have := depths_nodes l; omega
theorem depths_nodes : ∀ l : List Typ, depthTs l ≤ nodesTs l
  | [] => by simp [depthTs]
  | x :: l => by rw [depthTs, nodesTs]; have := depth_nodes x; have := depths_nodes l; omega
end
mutual
theorem size_nodes : ∀ p : Typ, sizeT p ≤ nodesT p
  | .mk k _ _ l => by rw [sizeT, nodesT]; have := sizes_nodes l; split <;> omega
theorem sizes_nodes : ∀ l : List Typ, sizeTs l ≤ nodesTs l
  | [] => by simp [sizeTs]
  | x :: l => by rw [sizeTs, nodesTs]; have := size_nodes x; have := sizes_nodes l; omega
end
mutual
/-- Has it a name that is too long? -/
def longT : Typ → Bool
  | .mk _ s _ l => decide ((s.length : Int) > 60) || longTs l
def longTs : List Typ → Bool
  | [] => false
  | x :: l => longT x || longTs l
end
end Go.Lamb
namespace Go.Lamb
open Go Go.RowKit

/-- All that is new is plain data from now on. -/
def K.new (κ : K) (w w' : World) : K := { κ with m := fun b o => if b < w.heap.size then κ.m b o else w'.cell? ⟨b, o, none⟩ }
section
variable {P : Program} {w0 w w' : World} {κ : K} {σ : H}
theorem K.new_le (h : Rep w0 κ σ w) : κ.le (κ.new w w') :=
  RV.same (fun b o v hm => by
    show (if b < w.heap.size then _ else _) = _
    rw [if_pos (h.mem_lt hm)]; exact hm) (Nat.le_refl _) (fun _ _ => rfl) (fun _ _ => rfl) (fun _ _ => rfl) (fun _ _ => rfl)
theorem Rep.new (h : Rep w0 κ σ w) (hb : Below w.heap.size w w') : Rep w0 (κ.new w w') σ w' := by
  have hle : κ.le (κ.new w w') := K.new_le h
  have hg := h.grow hb
  have hmo : ∀ b o, b < w.heap.size → (κ.new w w').m b o = κ.m b o := fun b o hlt => by show (if b < w.heap.size then _ else _) = _; rw [if_pos hlt]
  refine ⟨h.n, hg.ext, fun b o v hm => ?_, fun b hb' => ?_, fun x y hx hy g hne => h.apart x y hx hy g hne⟩
  · rcases Nat.lt_or_ge b w.heap.size with hlt | hge
    · rw [hmo b o hlt] at hm
      exact hg.mem b o v hm
    · have hm' : (if b < w.heap.size then κ.m b o else w'.cell? ⟨b, o, none⟩) = some v := hm
      rw [if_neg (by omega)] at hm'
      exact hm'
  · have h1 := hg.blk b hb'
    have hl := fun g hg => (h.lies_lt (g := g) hb' hg).2
    cases hσ : σ[b] with
    | cells cs =>
      rw [hσ] at h1 hl
      obtain ⟨vs, t, k1, k2, k3⟩ := h1.row
      exact ⟨h1.fr, ⟨vs, t, k1, k2, fun j hj => ⟨(k3 j hj).1, (k3 j hj).2.mono hle⟩⟩, h1.own, fun o => (hmo _ o (hl _ rfl)).trans (h1.free o), h1.ty⟩
    | spare e size n =>
      rw [hσ] at h1 hl
      exact ⟨h1.fr, h1.sz, h1.row, fun g hg' o ho => (hmo g o (hl g hg')).trans (h1.free g hg' o ho)⟩
    | mp kvs =>
      rw [hσ] at h1 hl
      exact Blk.mapped.le h1 hle.m h1.fr rfl (fun o => (hmo _ o (hl _ rfl)).trans (h1.free o))
    | gone => trivial
theorem K.new_at {b : Nat} (hb : w.heap.size ≤ b) (o : Nat) : (κ.new w w').m b o = w'.cell? ⟨b, o, none⟩ := by
  show (if b < w.heap.size then _ else _) = _
  rw [if_neg (by omega)]
/-- Out of a contract over worlds that makes memory. -/
theorem DC.of_new {f : FuncId} {args : List V} {d : V} (hen : Enters P f) (h : ∀ κ w vs, Rep w0 κ σ w → Fits κ args vs → Calls P f vs.toArray w (fun e w' => ∃ v, e = .returned v ∧ Below w.heap.size w w' ∧ RV (κ.new w w') d v)) :
    DC P w0 f args σ (Same d σ) := by
  refine ⟨hen, fun κ w vs hrep hfit => (h κ w vs hrep hfit).mono ?_⟩
  rintro e w' ⟨v, he, hb, hv⟩
  exact ⟨v, d, σ, κ.new w w', he, ⟨rfl, rfl⟩, K.new_le hrep, hrep.new hb, hv⟩
/-- A slice with room, handed back by one who made it, is one's own. -/
theorem Rep.ownNew (h0 : Rep w0 κ σ w) (hb : Below w.heap.size w w') (e size : Nat) (v : Value) (hv : (∃ A, v = .slice A 0 0) ∨ w'.ownsRow w.heap.size e size v 0 []) : Rep w0 (κ.own v size) (σ ++ [.spare e size 0]) w' := by
  have h := h0.grow hb
  have hle : κ.le (κ.own v size) := K.own_le
  have fro : ∀ b, b < σ.length → (κ.own v size).fr b = κ.fr b := fun b hb => by show (if b = κ.n then _ else _) = _; rw [if_neg (by rw [h.n]; omega)]
  have svo : ∀ b, b < σ.length → (κ.own v size).sv b = κ.sv b := fun b hb => by show (if b = κ.n then _ else _) = _; rw [if_neg (by rw [h.n]; omega)]
  have szo : ∀ b, b < σ.length → (κ.own v size).sz b = κ.sz b := fun b hb => by show (if b = κ.n then _ else _) = _; rw [if_neg (by rw [h.n]; omega)]
  have frn : (κ.own v size).fr σ.length = some 0 := by show (if σ.length = κ.n then _ else _) = _; rw [if_pos h.n.symm]
  have svn : (κ.own v size).sv σ.length = v := by show (if σ.length = κ.n then _ else _) = _; rw [if_pos h.n.symm]
  have szn : (κ.own v size).sz σ.length = size := by show (if σ.length = κ.n then _ else _) = _; rw [if_pos h.n.symm]
  have hheld : ∀ g, heldBy v = some g → w.heap.size ≤ g := fun g hg => by
    rcases hv with ⟨A, rfl⟩ | ho
    · cases A <;> cases hg
    · exact (ho.lt g (held_own hg)).1
  refine ⟨by show κ.n + 1 = _; rw [h.n]; simp, h.ext, h.mem, fun b hb => ?_, fun x y hx hy g hne => ?_⟩
  · rcases Nat.lt_or_ge b σ.length with hb' | hb'
    · rw [List.getElem_append_left hb']
      exact Blk.is_le (κ := κ) rfl hle rfl (fro b hb') (svo b hb') (szo b hb') (h.blk b hb')
    · have hbe : b = σ.length := by simp at hb; omega
      subst hbe
      rw [List.getElem_append_right (Nat.le_refl _)]
      simp only [Nat.sub_self, List.getElem_cons_zero]
      refine ⟨frn, szn, ?_, fun g hg o _ => ?_⟩
      · rw [svn]
        rcases hv with ⟨A, rfl⟩ | ho
        · exact .inl ⟨rfl, A, rfl⟩
        · refine .inr ⟨[], ho.1, ?_⟩
          rcases ho.2 with h1 | ⟨g, cap, cur, q1, q2, q3⟩
          · exact .inl h1
          · exact .inr ⟨g, cap, cur, q1, Nat.le_trans h0.ext.size q2, q3⟩
      · rw [svn] at hg
        exact h0.fresh (hheld g hg) o
  · rcases Nat.lt_or_ge x σ.length with hx' | hx'
    · rcases Nat.lt_or_ge y σ.length with hy' | hy'
      · rw [List.getElem_append_left hx', List.getElem_append_left hy', Blk.lies_same (κ := κ) (κ' := κ.own v size) rfl (svo x hx'), Blk.lies_same (κ := κ) (κ' := κ.own v size) rfl (svo y hy')]
        exact h.apart x y hx' hy' g hne
      · have hye : y = σ.length := by simp at hy; omega
        subst hye
        rw [List.getElem_append_left hx', List.getElem_append_right (Nat.le_refl _), Blk.lies_same (κ := κ) (κ' := κ.own v size) rfl (svo x hx')]
        simp only [Nat.sub_self, List.getElem_cons_zero, Blk.lies]
        rw [svn]
        intro e1 e2
        have := (h0.lies_lt hx' e1).2
        have := hheld g e2
        omega
    · have hxe : x = σ.length := by simp at hx; omega
      subst hxe
      have hy' : y < σ.length := by simp at hy; omega
      rw [List.getElem_append_right (Nat.le_refl _), List.getElem_append_left hy', Blk.lies_same (κ := κ) (κ' := κ.own v size) rfl (svo y hy')]
      simp only [Nat.sub_self, List.getElem_cons_zero, Blk.lies]
      rw [svn]
      intro e1 e2
      have := (h0.lies_lt hy' e2).2
      have := hheld g e1
      omega
/-- Out of a contract over worlds that hands back an empty slice with room. -/
theorem DC.of_room {f : FuncId} {args : List V} {e size : Nat} (hen : Enters P f) (h : ∀ κ w vs, Rep w0 κ σ w → Fits κ args vs → Calls P f vs.toArray w (fun r w' => ∃ v, r = .returned v ∧ Below w.heap.size w w' ∧ ((∃ A, v = .slice A 0 0) ∨ w'.ownsRow w.heap.size e size v 0 []))) :
    DC P w0 f args σ (Same (.osl σ.length []) (σ ++ [.spare e size 0])) := by
  refine ⟨hen, fun κ w vs hrep hfit => (h κ w vs hrep hfit).mono ?_⟩
  rintro r w' ⟨v, he, hb, hv⟩
  have hfr : (κ.own v size).fr σ.length = some 0 := by show (if σ.length = κ.n then _ else _) = _; rw [if_pos hrep.n.symm]
  have hsv : (κ.own v size).sv σ.length = v := by show (if σ.length = κ.n then _ else _) = _; rw [if_pos hrep.n.symm]
  have hrc : RC (κ.own v size).m (.sl []) v := by
    rcases hv with ⟨A, rfl⟩ | ho
    · exact .sl [] 0 A 0 [] (by simp) (Nat.le_refl _) (Nat.zero_le _) (by simp) (fun h => absurd rfl h) (fun i hi => by simp at hi)
    · rcases ho.2 with ⟨rfl, _⟩ | ⟨g, cap, cur, rfl, _, _, hc, hcm, _⟩
      · exact RC.nil _
      · exact .sl [] 0 _ cap [] (by simp) hc hcm (by simp) (fun h => absurd rfl h) (fun i hi => by simp at hi)
  exact ⟨v, .osl σ.length [], _, κ.own v size, he, ⟨rfl, rfl⟩, K.own_le, hrep.ownNew hb e size v hv, .osl hrc (by show _ < κ.n + 1; rw [hrep.n]; omega) hfr (Nat.le_refl _) (fun _ => hsv.symm) (by simp)⟩
/-- A slice of nothing without room may be taken for one's own. -/
theorem Lew.own {n0 : Nat} {ρ : Env} (d e size : Nat) (hρ : ρ d = .csl []) : Lew n0 ⟨ρ.put (some d) (.osl σ.length []), σ ++ [.spare e size 0]⟩ ⟨ρ, σ⟩ := fun w0 κ0 n κ a w hκ hR => by
  have hrep := hR.rep
  have hv := hR.env d
  rw [show (⟨ρ, σ⟩ : St).ρ d = ρ d from rfl, hρ] at hv
  generalize hx : a.tmps.getD d undef = v at hv
  cases hv with
  | csl h1 =>
    rename_i A
    have hle : κ.le (κ.own (.slice A 0 0) size) := K.own_le
    have frn : (κ.own (.slice A 0 0) size).fr σ.length = some 0 := by show (if σ.length = κ.n then _ else _) = _; rw [if_pos hrep.n.symm]
    have svn : (κ.own (.slice A 0 0) size).sv σ.length = .slice A 0 0 := by show (if σ.length = κ.n then _ else _) = _; rw [if_pos hrep.n.symm]
    refine ⟨κ.own (.slice A 0 0) size, hrep.own e size A, fun k => ?_, hR.size, hR.defers, K.le_trans hR.le hle⟩
    show RV _ (Env.put ρ (some d) _ k) _
    rw [put_some]
    by_cases hk : k = d
    · subst hk
      rw [if_pos rfl, hx]
      exact .osl (h1.mono hle.m) (by show _ < κ.n + 1; rw [hrep.n]; exact Nat.lt_succ_self _) frn (Nat.le_refl _) (fun _ => svn.symm) (by simp)
    · rw [if_neg hk]
      exact (hR.env k).mono hle
theorem W.own {n0 : Nat} {Q : St → Prop} {k : List It} {ρ : Env} (d e size : Nat) (hρ : ρ d = .csl []) (h : W P w0 n0 Q k ⟨ρ.put (some d) (.osl σ.length []), σ ++ [.spare e size 0]⟩) : W P w0 n0 Q k ⟨ρ, σ⟩ := .weak (Lew.own d e size hρ) h
end
end Go.Lamb
namespace Go.Lamb
open Go Go.RowKit

section
variable {P : Program} {w0 w w' : World} {κ : K} {σ : H}
/-- A cell of a block may be taken for what it is, too. -/
theorem Rep.turn (h : Rep w0 κ σ w) {b j : Nat} {cs : List V} {tg : Option TypeId} {y : V} (hb : σ[b]? = some (.cells cs tg)) (hl : y.leaf = true)
    (hxy : ∀ vs t, w.heap[κ.pos b]? = some (.cells vs t (0, 0)) → ∀ (hj : j < cs.length), RV κ cs[j] (vs.getD j undef) → RV κ y (vs.getD j undef)) : Rep w0 κ (σ.set b (.cells (cs.set j y) tg)) w := by
  obtain ⟨hlt, hbe⟩ := List.getElem?_eq_some_iff.1 hb
  have key : ∀ z (hz : z < σ.length) (hz' : z < (σ.set b (.cells (cs.set j y) tg)).length) g, ((σ.set b (.cells (cs.set j y) tg))[z]).lies κ z = some g → (σ[z]).lies κ z = some g := fun z hz hz' g hg => by
    by_cases hzb : z = b
    · subst hzb
      rw [List.getElem_set_self] at hg
      rw [hbe]; exact hg
    · rw [List.getElem_set_ne (fun e => hzb e.symm)] at hg
      exact hg
  refine ⟨by rw [List.length_set]; exact h.n, h.ext, h.mem, fun c hc => ?_, fun x z hx hz g hne => ?_⟩
  · have hc' : c < σ.length := by simpa using hc
    have h1 := h.blk c hc'
    by_cases hcb : c = b
    · subst hcb
      rw [List.getElem_set_self]
      rw [hbe] at h1
      obtain ⟨vs, t, k1, k2, k3⟩ := h1.row
      refine ⟨h1.fr, ⟨vs, t, k1, by rw [List.length_set]; exact k2, fun i hi => ?_⟩, h1.own, h1.free, h1.ty⟩
      have hi' : i < cs.length := by simpa using hi
      by_cases hij : j = i
      · subst hij
        rw [List.getElem_set_self]
        exact ⟨hl, hxy vs t k1 hi' (k3 j hi').2⟩
      · rw [List.getElem_set_ne hij]
        exact k3 i hi'
    · rw [List.getElem_set_ne (fun e => hcb e.symm)]
      exact h1
  · have hx' : x < σ.length := by simpa using hx
    have hz' : z < σ.length := by simpa using hz
    intro e1 e2
    exact h.apart x z hx' hz' g hne (key x hx' hx g e1) (key z hz' hz g e2)
theorem Lew.ownCell {n0 : Nat} {ρ : Env} (b j e size : Nat) {cs : List V} {tg : Option TypeId} (hb : σ[b]? = some (.cells cs tg)) (hj : cs[j]? = some (.csl [])) :
    Lew n0 ⟨ρ, (σ ++ [Blk.spare e size 0]).set b (.cells (cs.set j (.osl σ.length [])) tg)⟩ ⟨ρ, σ⟩ := fun w0 κ0 n κ a w hκ hR => by
  have hrep := hR.rep
  obtain ⟨hlt, hbe⟩ := List.getElem?_eq_some_iff.1 hb
  obtain ⟨hjl, hje⟩ := List.getElem?_eq_some_iff.1 hj
  have h1 := hrep.blk b hlt
  rw [show (⟨ρ, σ⟩ : St).σ[b] = .cells cs tg from hbe] at h1
  obtain ⟨vs, t, k1, k2, k3⟩ := h1.row
  have hv := (k3 j hjl).2
  rw [hje] at hv
  generalize hx : vs.getD j undef = v at hv
  cases hv with
  | csl hc =>
    rename_i A
    have hle : κ.le (κ.own (.slice A 0 0) size) := K.own_le
    have frn : (κ.own (.slice A 0 0) size).fr σ.length = some 0 := by show (if σ.length = κ.n then _ else _) = _; rw [if_pos hrep.n.symm]
    have svn : (κ.own (.slice A 0 0) size).sv σ.length = .slice A 0 0 := by show (if σ.length = κ.n then _ else _) = _; rw [if_pos hrep.n.symm]
    have hr2 := hrep.own e size A
    have hpos : (κ.own (.slice A 0 0) size).pos b = κ.pos b := (hle.cells b (by rw [hrep.n]; exact hlt) h1.fr).2
    refine ⟨κ.own (.slice A 0 0) size, hr2.turn (b := b) (j := j) (cs := cs) (tg := tg) (y := .osl σ.length []) ((List.getElem?_append_left hlt).trans hb) rfl (fun vs' t' k1' hj' hv' => ?_), fun k => (hR.env k).mono hle, hR.size, hR.defers, K.le_trans hR.le hle⟩
    rw [hpos, k1] at k1'
    injection k1' with k1'
    injection k1' with e1 e2
    subst e1
    rw [hx]
    exact .osl (hc.mono hle.m) (by show _ < κ.n + 1; rw [hrep.n]; exact Nat.lt_succ_self _) frn (Nat.le_refl _) (fun _ => svn.symm) (by simp)
theorem W.ownCell {n0 : Nat} {Q : St → Prop} {k : List It} {ρ : Env} (b j e size : Nat) {cs : List V} {tg : Option TypeId} (hb : σ[b]? = some (.cells cs tg)) (hj : cs[j]? = some (.csl []))
    (h : W P w0 n0 Q k ⟨ρ, (σ ++ [Blk.spare e size 0]).set b (.cells (cs.set j (.osl σ.length [])) tg)⟩) : W P w0 n0 Q k ⟨ρ, σ⟩ := .weak (Lew.ownCell b j e size hb hj) h
end
end Go.Lamb
namespace Go.Lamb
open Go Go.RowKit

structure Two (σ : H) (b v : Nat) : Prop where
  ne : b ≠ v
  lb : b < σ.length
  lv : v < σ.length
/-- The heap with these two blocks. -/
def rs (σ : H) (b v : Nat) (X Y : Blk) : H := (σ.set b X).set v Y
section
variable {σ : H} {b v : Nat}
@[simp] theorem rs_len (X Y : Blk) : (rs σ b v X Y).length = σ.length := by simp [rs]
theorem rs_app (D : Two σ b v) (L : H) (X Y : Blk) : rs (σ ++ L) b v X Y = rs σ b v X Y ++ L := by
  unfold rs
  rw [List.set_append_left _ _ D.lb, List.set_append_left _ _ (by simpa using D.lv)]
theorem rs_b (D : Two σ b v) (X Y : Blk) : (rs σ b v X Y)[b]? = some X := by
  unfold rs
  rw [List.getElem?_set_ne (fun e => D.ne e.symm), List.getElem?_set_self D.lb]
theorem rs_v (D : Two σ b v) (X Y : Blk) : (rs σ b v X Y)[v]? = some Y := by
  unfold rs
  rw [List.getElem?_set_self (by simpa using D.lv)]
theorem rs_bL (D : Two σ b v) (L : H) (X Y : Blk) : (rs σ b v X Y ++ L)[b]? = some X := by
  rw [List.getElem?_append_left (by simpa using D.lb), rs_b D]
theorem rs_vL (D : Two σ b v) (L : H) (X Y : Blk) : (rs σ b v X Y ++ L)[v]? = some Y := by
  rw [List.getElem?_append_left (by simpa using D.lv), rs_v D]
theorem rs_sb (D : Two σ b v) (X Y Z : Blk) : (rs σ b v X Y).set b Z = rs σ b v Z Y := by
  unfold rs
  rw [List.set_comm _ _ (fun e => D.ne e.symm), List.set_set]
theorem rs_sv (X Y Z : Blk) : (rs σ b v X Y).set v Z = rs σ b v X Z := by
  unfold rs
  rw [List.set_set]
theorem rs_sbL (D : Two σ b v) (L : H) (X Y Z : Blk) : (rs σ b v X Y ++ L).set b Z = rs σ b v Z Y ++ L := by
  rw [List.set_append_left _ _ (by simpa using D.lb), rs_sb D]
theorem rs_svL (D : Two σ b v) (L : H) (X Y Z : Blk) : (rs σ b v X Y ++ L).set v Z = rs σ b v X Z ++ L := by
  rw [List.set_append_left _ _ (by simpa using D.lv), rs_sv]
theorem rs_g0 (x : Blk) (L : H) (X Y : Blk) : (rs σ b v X Y ++ x :: L)[σ.length]? = some x := by
  rw [List.getElem?_append_right (by simp), rs_len, Nat.sub_self]; rfl
theorem rs_g (k : Nat) (L : H) (X Y : Blk) : (rs σ b v X Y ++ L)[σ.length + k]? = L[k]? := by
  rw [List.getElem?_append_right (by simp), rs_len, Nat.add_sub_cancel_left]
theorem rs_s0 (x : Blk) (L : H) (X Y : Blk) : (rs σ b v X Y ++ L).set σ.length x = rs σ b v X Y ++ L.set 0 x := by
  rw [List.set_append_right _ _ (by simp), rs_len, Nat.sub_self]
theorem rs_s (k : Nat) (x : Blk) (L : H) (X Y : Blk) : (rs σ b v X Y ++ L).set (σ.length + k) x = rs σ b v X Y ++ L.set k x := by
  rw [List.set_append_right _ _ (by simp), rs_len, Nat.add_sub_cancel_left]
theorem Two.app (D : Two σ b v) (L : H) : Two (σ ++ L) b v := ⟨D.ne, by have := D.lb; simp; omega, by have := D.lv; simp; omega⟩
theorem rsA (D : Two σ b v) : (∀ X Y : Blk, (rs σ b v X Y)[b]? = some X) ∧ (∀ (L : H) (X Y : Blk), (rs σ b v X Y ++ L)[b]? = some X) ∧ (∀ X Y : Blk, (rs σ b v X Y)[v]? = some Y) ∧ (∀ (L : H) (X Y : Blk), (rs σ b v X Y ++ L)[v]? = some Y) ∧ (∀ X Y Z : Blk, (rs σ b v X Y).set b Z = rs σ b v Z Y) ∧ (∀ (L : H) (X Y Z : Blk), (rs σ b v X Y ++ L).set b Z = rs σ b v Z Y ++ L) ∧ (∀ (L : H) (X Y Z : Blk), (rs σ b v X Y ++ L).set v Z = rs σ b v X Z ++ L) ∧ (∀ (L : H) (X Y : Blk), rs (σ ++ L) b v X Y = rs σ b v X Y ++ L) :=
  ⟨rs_b D, rs_bL D, rs_v D, rs_vL D, rs_sb D, rs_sbL D, rs_svL D, rs_app D⟩
theorem rs_ok (D : Two σ b v) {X Y X' Y' : Blk} (h : H.ok (rs σ b v X Y)) (hx : ∀ cs tg, X' = .cells cs tg → ∀ x ∈ cs, V.low σ.length x) (hy : ∀ cs tg, Y' = .cells cs tg → ∀ x ∈ cs, V.low σ.length x) : H.ok (rs σ b v X' Y') := by
  intro B hB cs tg hc x hxm
  rw [rs_len]
  obtain ⟨i, hi, rfl⟩ := List.getElem_of_mem hB
  have hi' : i < σ.length := by simpa using hi
  have hg : (rs σ b v X' Y')[i]? = some (.cells cs tg) := by rw [List.getElem?_eq_getElem hi, hc]
  by_cases hv : i = v
  · subst hv
    rw [rs_v D] at hg
    injection hg with hg
    exact hy cs tg hg x hxm
  · by_cases hb : i = b
    · subst hb
      rw [rs_b D] at hg
      injection hg with hg
      exact hx cs tg hg x hxm
    · have e : (rs σ b v X Y)[i]? = some (.cells cs tg) := by
        rw [← hg]
        unfold rs
        rw [List.getElem?_set_ne (fun e => hv e.symm), List.getElem?_set_ne (fun e => hb e.symm), List.getElem?_set_ne (fun e => hv e.symm), List.getElem?_set_ne (fun e => hb e.symm)]
      have := h (.cells cs tg) (List.mem_of_getElem? e) cs tg rfl x hxm
      rwa [rs_len] at this
/-- A contract at these two blocks, with more behind. -/
theorem DC.lift {P : Program} {w0 : World} {f : FuncId} {args : List V} {L : H} {X Y X' Y' : Blk} {d : V} (D : Two σ b v) (h : Two (σ ++ L) b v → DC P w0 f args (rs (σ ++ L) b v X Y) (Same d (rs (σ ++ L) b v X' Y'))) : DC P w0 f args (rs σ b v X Y ++ L) (Same d (rs σ b v X' Y' ++ L)) := by rw [← rs_app D, ← rs_app D]; exact h (D.app L)
end
end Go.Lamb
namespace Go.Lamb
open Go Go.RowKit

/-- The heap with this block. -/
def rz (σ : H) (b : Nat) (X : Blk) : H := σ.set b X
section
variable {σ : H} {b : Nat}
@[simp] theorem rz_len (X : Blk) : (rz σ b X).length = σ.length := by simp [rz]
theorem rz_app (D : b < σ.length) (L : H) (X : Blk) : rz (σ ++ L) b X = rz σ b X ++ L := List.set_append_left _ _ D
theorem rz_b (D : b < σ.length) (X : Blk) : (rz σ b X)[b]? = some X := List.getElem?_set_self D
theorem rz_bL (D : b < σ.length) (L : H) (X : Blk) : (rz σ b X ++ L)[b]? = some X := by
  rw [List.getElem?_append_left (by simpa using D), rz_b D]
theorem rz_sb (X Z : Blk) : (rz σ b X).set b Z = rz σ b Z := by unfold rz; rw [List.set_set]
theorem rz_sbL (D : b < σ.length) (L : H) (X Z : Blk) : (rz σ b X ++ L).set b Z = rz σ b Z ++ L := by
  rw [List.set_append_left _ _ (by simpa using D), rz_sb]
theorem rz_g0 (x : Blk) (L : H) (X : Blk) : (rz σ b X ++ x :: L)[σ.length]? = some x := by
  rw [List.getElem?_append_right (by simp), rz_len, Nat.sub_self]; rfl
theorem rz_g (k : Nat) (L : H) (X : Blk) : (rz σ b X ++ L)[σ.length + k]? = L[k]? := by
  rw [List.getElem?_append_right (by simp), rz_len, Nat.add_sub_cancel_left]
theorem rz_s0 (x : Blk) (L : H) (X : Blk) : (rz σ b X ++ L).set σ.length x = rz σ b X ++ L.set 0 x := by
  rw [List.set_append_right _ _ (by simp), rz_len, Nat.sub_self]
theorem rz_s (k : Nat) (x : Blk) (L : H) (X : Blk) : (rz σ b X ++ L).set (σ.length + k) x = rz σ b X ++ L.set k x := by
  rw [List.set_append_right _ _ (by simp), rz_len, Nat.add_sub_cancel_left]
theorem rz_lt (D : b < σ.length) (L : H) : b < (σ ++ L).length := by simp; omega
theorem rz_here {X : Blk} (hb : σ[b]? = some X) : rz σ b X = σ := set_here hb
theorem rz_ok (D : b < σ.length) {X X' : Blk} (h : H.ok (rz σ b X)) (hx : ∀ cs tg, X' = .cells cs tg → ∀ x ∈ cs, V.low σ.length x) : H.ok (rz σ b X') := by
  intro B hB cs tg hc x hxm
  rw [rz_len]
  obtain ⟨i, hi, rfl⟩ := List.getElem_of_mem hB
  have hi' : i < σ.length := by simpa using hi
  have hg : (rz σ b X')[i]? = some (.cells cs tg) := by rw [List.getElem?_eq_getElem hi, hc]
  by_cases hb : i = b
  · subst hb
    rw [rz_b D] at hg
    injection hg with hg
    exact hx cs tg hg x hxm
  · have e : (rz σ b X)[i]? = some (.cells cs tg) := by
      rw [← hg]
      unfold rz
      rw [List.getElem?_set_ne (fun e => hb e.symm), List.getElem?_set_ne (fun e => hb e.symm)]
    have := h (.cells cs tg) (List.mem_of_getElem? e) cs tg rfl x hxm
    rwa [rz_len] at this
theorem rzA (D : b < σ.length) : (∀ X : Blk, (rz σ b X)[b]? = some X) ∧ (∀ (L : H) (X : Blk), (rz σ b X ++ L)[b]? = some X) ∧ (∀ (L : H) (X Z : Blk), (rz σ b X ++ L).set b Z = rz σ b Z ++ L) ∧ (∀ (L : H) (X : Blk), rz (σ ++ L) b X = rz σ b X ++ L) := ⟨rz_b D, rz_bL D, rz_sbL D, rz_app D⟩
/-- A contract at this block, with more behind. -/
theorem DC.lift1 {P : Program} {w0 : World} {f : FuncId} {args : List V} {L : H} {X X' : Blk} {d : V} (D : b < σ.length) (h : b < (σ ++ L).length → DC P w0 f args (rz (σ ++ L) b X) (Same d (rz (σ ++ L) b X'))) : DC P w0 f args (rz σ b X ++ L) (Same d (rz σ b X' ++ L)) := by rw [← rz_app D, ← rz_app D]; exact h (rz_lt D L)
theorem DC.lift1R {P : Program} {w0 : World} {f : FuncId} {args : List V} {L : H} {X : Blk} {R : V → H → Prop} (D : b < σ.length) (h : b < (σ ++ L).length → DC P w0 f args (rz (σ ++ L) b X) R) : DC P w0 f args (rz σ b X ++ L) R := by rw [← rz_app D]; exact h (rz_lt D L)
end
section
variable {P : Program} {w0 : World} {σ : H}
/-- What a body must come to that hands back new blocks. -/
def FinN (r : List ResV) (R : V → H → Prop) (s : St) : Prop := ∃ vs d, resEval s r = some vs ∧ V.wk (resV vs) d ∧ R d s.σ
theorem DC.of_codeN {f : FuncId} {fn : Func} {x : AC} {r : List ResV} {args : List V} {R : V → H → Prop} (hm : P.follows .mixedOrders = true) (hf : P.funcs[f]? = some fn) (hb : fn.body = some (fn.body.getD .skip)) (htr : tr P fn.ntmps (fn.body.getD .skip) = some x)
    (hres : trRes P fn.results.toList = some r) (hargs : args.length ≤ fn.ntmps) (hen : Enters P f) (hW : H.ok σ → (∀ x ∈ args, V.Sz x) → W P w0 σ.length (FinN r R) [.code x] ⟨argEnv args, σ⟩) : DC P w0 f args σ R := by
  refine ⟨hen, fun κ w vs hrep hfit => ?_⟩
  refine calls_of_wp hf hb ?_
  have hR : Rel w0 κ fn.ntmps κ ⟨argEnv args, σ⟩ { tmps := vs.toArray ++ Array.replicate (fn.ntmps - vs.toArray.size) undef, defers := [] } w :=
    ⟨hrep, argEnv_ok hfit _, by simp [hfit.1]; omega, rfl, K.le_refl κ⟩
  have hfin : ∀ s κ' a w, Rel w0 κ fn.ntmps κ' s a w → FinN r R s → a.defers = [] ∧ ∃ v, (results fn a.tmps).run P w = .ok v w ∧ ∃ v' d σ' κ'', Ending.returned v = .returned v' ∧ R d σ' ∧ κ.le κ'' ∧ Rep w0 κ'' σ' w ∧ RV κ'' d v' := by
    rintro s κ' a w hR' ⟨vs, d, h1, h2, h3⟩
    obtain ⟨v, k1, k2⟩ := results_ok hR' hres h1
    exact ⟨hR'.defers, v, k1, v, d, s.σ, κ', rfl, h3, hR'.le, hR'.rep, k2.wk h2⟩
  refine wp_mono (code_sound (n0 := σ.length) hrep.n hm (fn.body.getD .skip) x htr (hW hrep.ok hfit.sz) hR) ?_
  rintro e a w' ⟨s, κ', hR', hs⟩
  cases e with
  | normal =>
    obtain ⟨t, hl, hq⟩ := W.inv_done hs
    obtain ⟨κ2, hR2⟩ := hl w0 κ fn.ntmps κ' a w' hrep.n hR'
    exact hfin t κ2 a w' hR2 hq
  | ret => exact hfin s κ' a w' hR' hs
  | exit id => obtain ⟨k', hp, _⟩ := hs; cases hp
  | goto l => exact hs.elim
  | panic ch => exact hs.elim
  | outgrown => exact hs.elim
theorem CodeIs.goN {f : FuncId} {n : Nat} {fn : Func} {x : AC} {r : List ResV} (K : CodeIs P f n fn x r) {args : List V} {R : V → H → Prop} (ha : args.length = n) (h : H.ok σ → (∀ x ∈ args, V.Sz x) → W P w0 σ.length (FinN r R) [.code x] ⟨argEnv args, σ⟩) : DC P w0 f args σ R :=
  DC.of_codeN K.hm K.hf K.hb K.htr K.hres (by rw [ha]; exact K.hn) K.en h
end
end Go.Lamb
namespace Go.Lamb
open Go Go.RowKit

structure KdT where
  name : Str
  n : Int
structure NmT where
  name : Str
  ty : Typ
structure Sg where
  kinds : List KdT
  types : List NmT
  ops : List OpT
def KdT.cs (x : KdT) : List C := [.str x.name, .int .i64 x.n]
def KdT.v (x : KdT) : V := .agg [S x.name, I x.n]
def NmT.cs (x : NmT) : List C := [.str x.name, .int .i64 x.ty.k, .str x.ty.name, .int .i64 x.ty.n, tysC x.ty.l]
def NmT.v (x : NmT) : V := .agg [S x.name, I x.ty.k, S x.ty.name, I x.ty.n, .c (tysC x.ty.l)]
def KdT.none : KdT := ⟨[], 0⟩
def NmT.none : NmT := ⟨[], .none⟩
def kdsC (l : List KdT) : C := .sl (l.map KdT.cs)
def nmsC (l : List NmT) : C := .sl (l.map NmT.cs)
def Sg.v (s : Sg) : V := .agg [.c (kdsC s.kinds), .c (nmsC s.types), .c (opsC s.ops)]
def Sg.none : Sg := ⟨[], [], []⟩
def kindL (l : List KdT) (name : Str) : Option KdT := l.find? (·.name == name)
def findN (l : List NmT) (name : Str) : Option NmT := l.find? (·.name == name)
def kindHere (l : List KdT) (p : Typ) : Bool := !(p.k == 0) || (match kindL l p.name with | some x => x.n == (p.l.length : Int) | none => false)
mutual
def knownT (l : List KdT) : Typ → Bool
  | .mk k s n r => (!(k == 0) || (match kindL l s with | some x => x.n == (r.length : Int) | none => false)) && knownTs l r
def knownTs (l : List KdT) : List Typ → Bool
  | [] => true
  | x :: r => knownT l x && knownTs l r
end
theorem knownTs_all (l : List KdT) : ∀ r : List Typ, knownTs l r = r.all (knownT l)
  | [] => by simp [knownTs]
  | x :: r => by rw [knownTs, List.all_cons, knownTs_all l r]
theorem knownT_eq (l : List KdT) (p : Typ) : knownT l p = (kindHere l p && p.l.all (knownT l)) := by
  cases p
  rw [knownT, knownTs_all]
  rfl
def fitsT (l : List KdT) (p : Typ) : Bool := validT p && knownT l p
def logicals : List Str := [[58, 45], [44], [59], [61, 62], [61], [105, 115], [60], [61, 60], [62], [62, 61], [116, 114, 117, 101], [102, 97, 105, 108], [33], [112, 105], [115, 105, 103, 109, 97]]
def mayE (ok there : Bool) (n : Nat) : Int := if ok = false then 113 else if there = true then 110 else if 1024 ≤ n then 112 else 0
def opN (x : Sent) (name : Str) : OpT := ⟨name, x.op.prec, x.op.fix⟩
def addN (s : Sg) (x : Sent) (name : Str) : Sg × Int :=
  if x.k = 0 then (⟨s.kinds ++ [⟨name, x.n⟩], s.types, s.ops⟩, mayE (isNameB name && decide (x.n ≥ 0)) (kindL s.kinds name).isSome s.kinds.length)
  else if x.k = 1 then (⟨s.kinds, s.types ++ [⟨name, x.ty⟩], s.ops⟩, mayE (isNameB name || isSymB name) (findN s.types name).isSome s.types.length)
  else if x.k = 2 then (⟨s.kinds, s.types, if wrongL s.ops (opN x name) = 0 then s.ops ++ [opN x name] else s.ops⟩, wrongL s.ops (opN x name))
  else (s, 0)
def addsL (x : Sent) : Sg → List Str → Except Int Sg
  | s, [] => .ok s
  | s, n :: r => if (addN s x n).2 = 0 then addsL x (addN s x n).1 r else .error (addN s x n).2
def outS (s : Sg) : Except Int Sg → Sg × Int
  | .ok t => (t, 0)
  | .error e => (s, e)
def addS (s : Sg) (x : Sent) : Sg × Int :=
  if x.k < 0 ∨ 3 < x.k then (s, 1)
  else if x.k = 1 ∧ fitsT s.kinds x.ty = false then (s, 111)
  else outS s (addsL x s x.names)
theorem addsL_snoc (x : Sent) : ∀ (l : List Str) (s : Sg) (n : Str), addsL x s (l ++ [n]) = match addsL x s l with
    | .ok t => if (addN t x n).2 = 0 then .ok (addN t x n).1 else .error (addN t x n).2
    | .error e => .error e
  | [], s, n => by
    rw [List.nil_append, addsL, addsL]
    rfl
  | m :: l, s, n => by
    rw [List.cons_append, addsL, addsL]
    by_cases h : (addN s x m).2 = 0
    · rw [if_pos h, if_pos h]
      exact addsL_snoc x l _ n
    · rw [if_neg h, if_neg h]
theorem adds_err (x : Sent) : ∀ (l : List Str) (s : Sg) (e : Int), addsL x s l = .error e → (e == 0) = false
  | [], s, e, h => by rw [addsL] at h; cases h
  | m :: l, s, e, h => by
    rw [addsL] at h
    by_cases h0 : (addN s x m).2 = 0
    · rw [if_pos h0] at h; exact adds_err x l _ e h
    · rw [if_neg h0] at h
      injection h with h
      subst h
      simpa using h0
/-- When an error stands at some name, it is the error of all. -/
theorem adds_stop (x : Sent) (s : Sg) {l : List Str} {i : Nat} {t : Sg} (hi : i < l.length) (h : addsL x s (l.take i) = .ok t) (he : (addN t x l[i]).2 ≠ 0) : addsL x s l = .error (addN t x l[i]).2 := by
  have h1 : addsL x s (l.take (i + 1)) = .error (addN t x l[i]).2 := by
    rw [List.take_succ_eq_append_getElem hi, addsL_snoc, h]
    simp only [if_neg he]
  have key : ∀ (r q : List Str) (s : Sg) (e : Int), addsL x s q = .error e → addsL x s (q ++ r) = .error e := by
    intro r q
    induction q with
    | nil => intro s e h; rw [addsL] at h; cases h
    | cons m q ih =>
      intro s e h
      rw [addsL] at h
      rw [List.cons_append, addsL]
      by_cases h0 : (addN s x m).2 = 0
      · rw [if_pos h0] at h ⊢; exact ih _ _ h
      · rw [if_neg h0] at h ⊢; exact h
  have := key (l.drop (i + 1)) _ s _ h1
  rwa [List.take_append_drop] at this
theorem adds_go (x : Sent) (s : Sg) {l : List Str} {i : Nat} {t : Sg} (hi : i < l.length) (h : addsL x s (l.take i) = .ok t) (he : (addN t x l[i]).2 = 0) : addsL x s (l.take (i + 1)) = .ok (addN t x l[i]).1 := by
  rw [List.take_succ_eq_append_getElem hi, addsL_snoc, h]
  simp only [if_pos he]
/-- How many there are more. -/
theorem addN_len (s : Sg) (x : Sent) (n : Str) : (addN s x n).1.kinds.length ≤ s.kinds.length + 1 ∧ (addN s x n).1.types.length ≤ s.types.length + 1 ∧ (addN s x n).1.ops.length ≤ s.ops.length + 1 := by
  unfold addN
  repeat' split
  all_goals simp
theorem adds_len (x : Sent) : ∀ (l : List Str) (s t : Sg), addsL x s l = .ok t → t.kinds.length ≤ s.kinds.length + l.length ∧ t.types.length ≤ s.types.length + l.length ∧ t.ops.length ≤ s.ops.length + l.length
  | [], s, t, h => by
    rw [addsL] at h
    injection h with h
    subst h
    simp
  | m :: l, s, t, h => by
    rw [addsL] at h
    by_cases h0 : (addN s x m).2 = 0
    · rw [if_pos h0] at h
      have h1 := adds_len x l _ t h
      have h2 := addN_len s x m
      rw [List.length_cons]
      omega
    · rw [if_neg h0] at h; cases h
end Go.Lamb
namespace Go.Lamb
open Go Go.RowKit

/-- The token at whatever place. -/
def tokI (t : List Tok) (i : Int) : Tok := if 0 ≤ i then tokL t i.toNat else ⟨0, [], 0, lastPos t⟩
theorem tokI_nat (t : List Tok) (i : Nat) : tokI t (i : Int) = tokL t i := by rw [tokI, if_pos (by omega), Int.toNat_natCast]
structure TyO where
  u : Typ
  j : Int
  ws : List Str
  e : Int
  p : Int
/-- A bracket behind it. -/
def closeO (t : List Tok) (o : TyO) : TyO := ⟨o.u, IntKind.i64.wrap (o.j + 1), o.ws, if o.e = 0 then (if (tokI t o.j).kind = 6 then 0 else 50) else o.e, if o.e = 0 then (if (tokI t o.j).kind = 6 then 0 else (tokI t o.j).pos) else o.p⟩
mutual
def tyAtomG : Nat → List Tok → Nat → Nat → List Str → Option TyO
  | 0, _, _, _, _ => none
  | f + 1, t, depth, i, vs =>
    if (tokL t i).kind = 1 then some ⟨.con (tokL t i).text, (i + 1 : Nat), vs, 0, 0⟩
    else if (tokL t i).kind = 2 then some ⟨.var (vnum vs (tokL t i).text), (i + 1 : Nat), vadd vs (tokL t i).text, 0, 0⟩
    else if (tokL t i).kind = 5 then
      match (if 200 ≤ depth then some ⟨.none, (i + 1 : Nat), vs, 31, (tokL t i).pos⟩ else tyTypeG f t (depth + 1) (i + 1) vs) with
      | none => none
      | some o => some (closeO t o)
    else some ⟨.none, (i : Nat), vs, 50, (tokL t i).pos⟩
def tyArgsG : Nat → List Tok → Nat → TyO → Option TyO
  | 0, _, _, _ => none
  | f + 1, t, depth, o =>
    if o.e = 0 ∧ tyBegins (tokI t o.j) = true then
      match tyAtomG f t depth o.j.toNat o.ws with
      | none => none
      | some a => tyArgsG f t depth ⟨o.u.put a.u, a.j, a.ws, a.e, a.p⟩
    else some o
def tyTailG : Nat → List Tok → Nat → TyO → Option TyO
  | 0, _, _, _ => none
  | f + 1, t, depth, o =>
    if o.e = 0 ∧ (tokI t o.j).kind = 4 ∧ (tokI t o.j).text = [45, 62] then
      match (if 200 ≤ depth then some ⟨.none, IntKind.i64.wrap (o.j + 1), o.ws, 31, (tokI t o.j).pos⟩ else tyTypeG f t (depth + 1) (o.j + 1).toNat o.ws) with
      | none => none
      | some y => some ⟨.arr o.u y.u, y.j, y.ws, y.e, y.p⟩
    else some o
def tyTypeG : Nat → List Tok → Nat → Nat → List Str → Option TyO
  | 0, _, _, _, _ => none
  | f + 1, t, depth, i, vs => match tyAtomG f t depth i vs with
    | none => none
    | some o => match (if (tokL t i).kind = 1 then tyArgsG f t depth o else some o) with
      | none => none
      | some o2 => tyTailG f t depth o2
end
/-- What comes of it, in both words. -/
def TOut (r : TyR) (o : TyO) : Prop := match r with
  | .ok (u, j, ws) => o = ⟨u, (j : Nat), ws, 0, 0⟩
  | .error x => o.e = x.e ∧ o.p = x.pos ∧ (x.e == 0) = false
theorem args_stop {f : Nat} {t : List Tok} {depth : Nat} {o : TyO} (h : o.e ≠ 0) : tyArgsG (f + 1) t depth o = some o := by rw [tyArgsG, if_neg (fun c => h c.1)]
theorem tail_stop {f : Nat} {t : List Tok} {depth : Nat} {o : TyO} (h : o.e ≠ 0) : tyTailG (f + 1) t depth o = some o := by rw [tyTailG, if_neg (fun c => h c.1)]
theorem close_ok {t : List Tok} {u : Typ} {j : Nat} {ws : List Str} (hj : j ≤ 2000000) : closeO t ⟨u, (j : Nat), ws, 0, 0⟩ = if (tokL t j).kind = 6 then ⟨u, (j + 1 : Nat), ws, 0, 0⟩ else ⟨u, (j + 1 : Nat), ws, 50, (tokL t j).pos⟩ := by
  unfold closeO
  simp only [if_true, tokI_nat]
  have : IntKind.i64.wrap ((j : Int) + 1) = ((j + 1 : Nat) : Int) := by rw [wrap_in] <;> omega
  rw [this]
  by_cases h : (tokL t j).kind = 6
  · simp only [if_pos h]
  · simp only [if_neg h]
theorem close_bad {t : List Tok} {o : TyO} (h : o.e ≠ 0) : closeO t o = ⟨o.u, IntKind.i64.wrap (o.j + 1), o.ws, o.e, o.p⟩ := by
  unfold closeO
  simp only [if_neg h]
theorem ty_out : ∀ (f : Nat), (∀ t depth i vs r, t.length ≤ 1000000 → tyAtomF f t depth i vs = some r → ∃ o, tyAtomG f t depth i vs = some o ∧ TOut r o) ∧
    (∀ t depth i vs u r, t.length ≤ 1000000 → tyArgsF f t depth i vs u = some r → ∃ o, tyArgsG f t depth ⟨u, (i : Nat), vs, 0, 0⟩ = some o ∧ TOut r o) ∧
    (∀ t depth i vs u r, t.length ≤ 1000000 → i ≤ t.length → tyTailF f t depth i vs u = some r → ∃ o, tyTailG f t depth ⟨u, (i : Nat), vs, 0, 0⟩ = some o ∧ TOut r o) ∧
    (∀ t depth i vs r, t.length ≤ 1000000 → tyTypeF f t depth i vs = some r → ∃ o, tyTypeG f t depth i vs = some o ∧ TOut r o)
  | 0 => ⟨fun _ _ _ _ _ _ h => by simp [tyAtomF] at h, fun _ _ _ _ _ _ _ h => by simp [tyArgsF] at h, fun _ _ _ _ _ _ _ _ h => by simp [tyTailF] at h, fun _ _ _ _ _ _ h => by simp [tyTypeF] at h⟩
  | f + 1 => by
    obtain ⟨h1, h2, h3, h4⟩ := ty_out f
    have hpos : ∀ {t depth i vs r}, tyAtomF f t depth i vs = some r → 0 < f := fun h => by
      cases f with
      | zero => simp [tyAtomF] at h
      | succ f => omega
    refine ⟨fun t depth i vs r ht h => ?_, fun t depth i vs u r ht h => ?_, fun t depth i vs u r ht hi h => ?_, fun t depth i vs r ht h => ?_⟩
    · rw [tyAtomF] at h
      rw [tyAtomG]
      by_cases c1 : (tokL t i).kind = 1
      · rw [if_pos c1] at h ⊢
        injection h with h; subst h
        exact ⟨_, rfl, rfl⟩
      rw [if_neg c1] at h ⊢
      by_cases c2 : (tokL t i).kind = 2
      · rw [if_pos c2] at h ⊢
        injection h with h; subst h
        exact ⟨_, rfl, rfl⟩
      rw [if_neg c2] at h ⊢
      by_cases c3 : (tokL t i).kind = 5
      · rw [if_pos c3] at h ⊢
        by_cases c4 : 200 ≤ depth
        · rw [if_pos c4] at h ⊢
          injection h with h; subst h
          refine ⟨_, rfl, ?_⟩
          rw [close_bad (by show (31 : Int) ≠ 0; decide)]
          exact ⟨rfl, rfl, rfl⟩
        · rw [if_neg c4] at h ⊢
          cases he : tyTypeF f t (depth + 1) (i + 1) vs with
          | none => rw [he] at h; cases h
          | some y =>
            rw [he] at h
            obtain ⟨o, ho, hO⟩ := h4 _ _ _ _ _ ht he
            rw [ho]
            cases y with
            | error b =>
              injection h with h; subst h
              obtain ⟨q1, q2, q3⟩ := hO
              have hne : o.e ≠ 0 := by rw [q1]; simpa using q3
              refine ⟨_, rfl, ?_⟩
              rw [close_bad hne]
              exact ⟨q1, q2, q3⟩
            | ok y =>
              obtain ⟨u, j, ws⟩ := y
              have hb := (ty_bounds f).2.2.2 _ _ _ _ _ _ _ he
              have hO' : o = ⟨u, (j : Nat), ws, 0, 0⟩ := hO
              subst hO'
              refine ⟨_, rfl, ?_⟩
              rw [close_ok (by omega)]
              simp only at h
              by_cases c6 : (tokL t j).kind = 6
              · rw [if_pos c6] at h ⊢
                injection h with h; subst h
                rfl
              · rw [if_neg c6] at h ⊢
                injection h with h; subst h
                exact ⟨rfl, rfl, rfl⟩
      · rw [if_neg c3] at h ⊢
        injection h with h; subst h
        exact ⟨_, rfl, rfl, rfl, rfl⟩
    · rw [tyArgsF] at h
      rw [tyArgsG]
      simp only [tokI_nat, true_and, Int.toNat_natCast]
      by_cases c1 : tyBegins (tokL t i) = false
      · rw [if_pos c1] at h
        rw [if_neg (by rw [c1]; decide)]
        injection h with h; subst h
        exact ⟨_, rfl, rfl⟩
      · rw [if_neg c1] at h
        rw [if_pos (by simpa using c1)]
        cases he : tyAtomF f t depth i vs with
        | none => rw [he] at h; cases h
        | some y =>
          rw [he] at h
          have hf := hpos he
          obtain ⟨o, ho, hO⟩ := h1 _ _ _ _ _ ht he
          rw [ho]
          cases y with
          | error b =>
            injection h with h; subst h
            obtain ⟨q1, q2, q3⟩ := hO
            have hne : o.e ≠ 0 := by rw [q1]; simpa using q3
            obtain ⟨f', rfl⟩ : ∃ f', f = f' + 1 := ⟨f - 1, by omega⟩
            exact ⟨_, args_stop hne, q1, q2, q3⟩
          | ok y =>
            obtain ⟨a, j, ws⟩ := y
            have hO' : o = ⟨a, (j : Nat), ws, 0, 0⟩ := hO
            subst hO'
            exact h2 _ _ _ _ _ _ ht h
    · rw [tyTailF] at h
      rw [tyTailG]
      simp only [tokI_nat, true_and]
      by_cases c1 : (tokL t i).kind = 4 ∧ (tokL t i).text = [45, 62]
      · rw [if_pos c1] at h
        rw [if_pos c1]
        by_cases c4 : 200 ≤ depth
        · rw [if_pos c4] at h ⊢
          injection h with h; subst h
          exact ⟨_, rfl, rfl, rfl, rfl⟩
        · rw [if_neg c4] at h ⊢
          have e : ((i : Int) + 1).toNat = i + 1 := by omega
          rw [e]
          cases he : tyTypeF f t (depth + 1) (i + 1) vs with
          | none => rw [he] at h; cases h
          | some y =>
            rw [he] at h
            obtain ⟨o, ho, hO⟩ := h4 _ _ _ _ _ ht he
            rw [ho]
            cases y with
            | error b =>
              injection h with h; subst h
              exact ⟨_, rfl, hO⟩
            | ok y =>
              obtain ⟨a, j, ws⟩ := y
              have hO' : o = ⟨a, (j : Nat), ws, 0, 0⟩ := hO
              subst hO'
              injection h with h; subst h
              exact ⟨_, rfl, rfl⟩
      · rw [if_neg c1] at h
        rw [if_neg c1]
        injection h with h; subst h
        exact ⟨_, rfl, rfl⟩
    · rw [tyTypeF] at h
      rw [tyTypeG]
      cases he : tyAtomF f t depth i vs with
      | none => rw [he] at h; cases h
      | some y =>
        rw [he] at h
        have hf := hpos he
        obtain ⟨f', hf'⟩ : ∃ f', f = f' + 1 := ⟨f - 1, by omega⟩
        obtain ⟨o, ho, hO⟩ := h1 _ _ _ _ _ ht he
        rw [ho]
        simp only
        cases y with
        | error b =>
          injection h with h; subst h
          obtain ⟨q1, q2, q3⟩ := hO
          have hne : o.e ≠ 0 := by rw [q1]; simpa using q3
          refine ⟨o, ?_, q1, q2, q3⟩
          subst hf'
          by_cases c1 : (tokL t i).kind = 1
          · rw [if_pos c1, args_stop hne]
            exact tail_stop hne
          · rw [if_neg c1]
            exact tail_stop hne
        | ok y =>
          obtain ⟨a, j, ws⟩ := y
          have b1 := (ty_bounds f).1 _ _ _ _ _ _ _ he
          have hO' : o = ⟨a, (j : Nat), ws, 0, 0⟩ := hO
          subst hO'
          simp only at h
          by_cases c1 : (tokL t i).kind = 1
          · rw [if_pos c1] at h ⊢
            cases hg : tyArgsF f t depth j ws a with
            | none => rw [hg] at h; cases h
            | some z =>
              rw [hg] at h
              obtain ⟨o2, ho2, hO2⟩ := h2 _ _ _ _ _ _ ht hg
              rw [ho2]
              cases z with
              | error b =>
                injection h with h; subst h
                obtain ⟨q1, q2, q3⟩ := hO2
                have hne : o2.e ≠ 0 := by rw [q1]; simpa using q3
                subst hf'
                exact ⟨o2, tail_stop hne, q1, q2, q3⟩
              | ok z =>
                obtain ⟨a2, j2, ws2⟩ := z
                have b2 := (ty_bounds f).2.1 _ _ _ _ _ _ _ _ hg b1.2.1
                have hO' : o2 = ⟨a2, (j2 : Nat), ws2, 0, 0⟩ := hO2
                subst hO'
                exact h3 _ _ _ _ _ _ ht b2.2.1 h
          · rw [if_neg c1] at h ⊢
            exact h3 _ _ _ _ _ _ ht b1.2.1 h
end Go.Lamb
namespace Go.Lamb
open Go Go.RowKit

/-- The first n tokens stand in the other row, further on by s; behind them a dot, or the end. -/
structure Part (t t' : List Tok) (s n : Nat) : Prop where
  same : ∀ k, k < n → tokL t' (k + s) = tokL t k
  out : ∀ k, k = n → (tokL t' (k + s)).kind = 0 ∨ (tokL t' (k + s)).kind = 7
theorem part_of {t ahead : List Tok} {n : Nat} (hn : n ≤ t.length) : Part t (ahead ++ t.take n) ahead.length n :=
  ⟨fun k hk => by
    rw [tokL, tokL, List.getElem?_append_right (by omega), Nat.add_sub_cancel, List.getElem?_take, if_pos hk, List.getElem?_eq_getElem (by omega)]
    rfl, fun k hk => by
    left
    rw [tokL, List.getElem?_append_right (by omega), Nat.add_sub_cancel, List.getElem?_take, if_neg (by omega)]
    rfl⟩
theorem lam_far {f : Nat} {l : List OpT} {t : List Tok} {depth i : Nat} {p : Pre} {j : Nat} (h : atomF f l t depth i = some (.ok (p, j))) (hl : lamAt t i = true) : i + 2 ≤ j := by
  cases f with
  | zero => simp [atomF] at h
  | succ f =>
    simp only [lamAt, decide_eq_true_eq] at hl
    obtain ⟨hk, hn⟩ := hl
    rw [atomF] at h
    simp only at h
    split at h
    · cases h
    · split at h
      · rename_i h5; omega
      · split at h
        · rename_i h3; omega
        · rw [if_pos ⟨by omega, hn⟩] at h
          split at h
          · cases h
          · split at h
            · cases h
            · cases h
            · rename_i m k he
              injection h with h; injection h with h; injection h with _ h
              have := ((fuel_bounds f).2.2.1 _ _ _ _ _ _ _ he).1
              omega
theorem lam_same {t t' : List Tok} {s n : Nat} (P : Part t t' s n) {f : Nat} {l : List OpT} {depth i : Nat} {p : Pre} {j : Nat} (h : atomF f l t depth i = some (.ok (p, j))) (hj : j ≤ n) : lamAt t' (i + s) = lamAt t i := by
  have hi := ((fuel_bounds f).1 _ _ _ _ _ _ h).1
  have e0 := P.same i (by omega)
  rcases Nat.lt_or_ge (i + 1) n with h1 | h1
  · have e1 := P.same (i + 1) h1
    rw [Nat.add_right_comm] at e1
    simp only [lamAt, e0, e1]
  · have e1 := P.out (i + 1) (by omega)
    rw [Nat.add_right_comm] at e1
    have hf : lamAt t i = false := by
      cases hl : lamAt t i
      · rfl
      · have := lam_far h hl; omega
    rw [hf]
    rcases e1 with e1 | e1 <;> simp [lamAt, e1]
theorem part_fuel {t t' : List Tok} {s n : Nat} (P : Part t t' s n) (hn : n ≤ t.length) : ∀ (f : Nat),
    (∀ l depth i p j, atomF f l t depth i = some (.ok (p, j)) → j ≤ n → atomF f l t' depth (i + s) = some (.ok (p, j + s))) ∧
    (∀ l depth i p pos last q j, argsF f l t depth i p pos last = some (.ok (q, j)) → i ≤ n → j ≤ n → argsF f l t' depth (i + s) p pos last = some (.ok (q, j + s))) ∧
    (∀ l least depth i m j, exprF f l t least depth i = some (.ok (m, j)) → j ≤ n → exprF f l t' least depth (i + s) = some (.ok (m, j + s))) ∧
    (∀ l least depth i m r j, chainF f l t least depth i m = some (.ok (r, j)) → i ≤ n → j ≤ n → chainF f l t' least depth (i + s) m = some (.ok (r, j + s)))
  | 0 => ⟨fun _ _ _ _ _ h => by simp [atomF] at h, fun _ _ _ _ _ _ _ _ h => by simp [argsF] at h, fun _ _ _ _ _ _ h => by simp [exprF] at h, fun _ _ _ _ _ _ _ h => by simp [chainF] at h⟩
  | f + 1 => by
    obtain ⟨h1, h2, h3, h4⟩ := part_fuel P hn f
    refine ⟨fun l depth i p j h hj => ?_, fun l depth i p pos last q j h hi hj => ?_, fun l least depth i m j h hj => ?_, fun l least depth i m r j h hi hj => ?_⟩
    · have hlt := ((fuel_bounds (f + 1)).1 _ _ _ _ _ _ h).1
      have e0 := P.same i (by omega)
      rw [atomF] at h ⊢
      simp only [e0] at h ⊢
      split at h
      · cases h
      · rename_i hb
        rw [if_neg hb]
        split at h
        · rename_i h5
          rw [if_pos h5]
          split at h
          · rename_i hc
            injection h with h; injection h with h; injection h with ha hb'
            subst hb'
            have e1 := P.same (i + 1) (by omega)
            have e2 := P.same (i + 2) (by omega)
            rw [Nat.add_right_comm] at e1 e2
            rw [e1, e2, if_pos hc, ← ha, Nat.add_right_comm]
          · rename_i hc
            split at h
            · cases h
            · rename_i hd
              split at h
              · cases h
              · cases h
              · rename_i m k he
                split at h
                · rename_i hk6
                  injection h with h; injection h with h; injection h with ha hb'
                  subst hb'
                  have hk := ((fuel_bounds f).2.2.1 _ _ _ _ _ _ _ he).1
                  have e1 := P.same (i + 1) (by omega)
                  have e2 := P.same (i + 2) (by omega)
                  have e3 := P.same k (by omega)
                  have he' := h3 _ _ _ _ _ _ he (by omega)
                  rw [Nat.add_right_comm] at e1 e2 he'
                  rw [e1, e2, if_neg hc, if_neg hd, he']
                  simp only [e3]
                  rw [if_pos hk6, ← ha, Nat.add_right_comm]
                · cases h
        · rename_i h5
          rw [if_neg h5]
          split at h
          · rename_i h3'
            rw [if_pos h3']
            injection h with h; injection h with h; injection h with ha hb'
            subst hb'
            rw [← ha, Nat.add_right_comm]
          · rename_i h3'
            rw [if_neg h3']
            split at h
            · rename_i hc
              split at h
              · cases h
              · rename_i hd
                split at h
                · cases h
                · cases h
                · rename_i m k he
                  injection h with h; injection h with h; injection h with ha hb'
                  subst hb'
                  have hk := ((fuel_bounds f).2.2.1 _ _ _ _ _ _ _ he).1
                  have e1 := P.same (i + 1) (by omega)
                  have he' := h3 _ _ _ _ _ _ he (by omega)
                  rw [Nat.add_right_comm] at e1 he'
                  rw [e1, if_pos hc, if_neg hd, he', ← ha]
            · rename_i hc
              injection h with h; injection h with h; injection h with ha hb'
              subst hb'
              have hc' : ¬ ((tokL t i).kind ≠ 4 ∧ (tokL t' (i + s + 1)).kind = 8) := by
                rcases Nat.lt_or_ge (i + 1) n with h1' | h1'
                · have e1 := P.same (i + 1) h1'
                  rw [Nat.add_right_comm] at e1
                  rw [e1]; exact hc
                · have e1 := P.out (i + 1) (by omega)
                  rw [Nat.add_right_comm] at e1
                  rcases e1 with e1 | e1 <;> (rw [e1]; simp)
              rw [if_neg hc', ← ha, Nat.add_right_comm]
    · rw [argsF] at h ⊢
      split at h
      · rename_i hc
        injection h with h; injection h with h; injection h with ha hb
        subst hb ha
        have hc' : last = true ∨ beginsL l (tokL t' (i + s)) = false := by
          rcases hc with hc | hc
          · exact .inl hc
          · right
            rcases Nat.lt_or_ge i n with h1' | h1'
            · rw [P.same i h1']; exact hc
            · rcases P.out i (by omega) with e1 | e1 <;> simp [beginsL, e1]
        rw [if_pos hc']
      · rename_i hc
        split at h
        · cases h
        · cases h
        · rename_i q' k he
          have hkj := ((fuel_bounds f).2.1 _ _ _ _ _ _ _ _ _ h ((fuel_bounds f).1 _ _ _ _ _ _ he).2).1
          have hik := ((fuel_bounds f).1 _ _ _ _ _ _ he).1
          have e0 := P.same i (by omega)
          rw [if_neg (by rw [e0]; exact hc), h1 _ _ _ _ _ he (by omega)]
          simp only
          rw [lam_same P he (by omega)]
          exact h2 _ _ _ _ _ _ _ _ h (by omega) hj
    · rw [exprF] at h ⊢
      split at h
      · cases h
      · cases h
      · rename_i p k he
        split at h
        · cases h
        · cases h
        · rename_i q k2 hg
          have b1 := (fuel_bounds f).1 _ _ _ _ _ _ he
          have b2 := (fuel_bounds f).2.1 _ _ _ _ _ _ _ _ _ hg b1.2
          have b3 := (fuel_bounds f).2.2.2 _ _ _ _ _ _ _ _ h b2.2
          rw [h1 _ _ _ _ _ he (by omega)]
          simp only
          rw [lam_same P he (by omega), h2 _ _ _ _ _ _ _ _ hg (by omega) (by omega)]
          exact h4 _ _ _ _ _ _ _ h (by omega) hj
    · rw [chainF] at h ⊢
      cases ho : opOf l (tokL t i) with
      | none =>
        rw [ho] at h
        injection h with h; injection h with h; injection h with ha hb
        subst hb ha
        have ho' : opOf l (tokL t' (i + s)) = none := by
          rcases Nat.lt_or_ge i n with h1' | h1'
          · rw [P.same i h1']; exact ho
          · rcases P.out i (by omega) with e1 | e1 <;> (rw [opOf, e1]; simp)
        rw [ho']
      | some o =>
        rw [ho] at h
        simp only at h
        split at h
        · rename_i hc
          injection h with h; injection h with h; injection h with ha hb
          subst hb ha
          rcases Nat.lt_or_ge i n with h1' | h1'
          · rw [P.same i h1', ho]
            simp only
            rw [if_pos hc]
          · have ho' : opOf l (tokL t' (i + s)) = none := by rcases P.out i (by omega) with e1 | e1 <;> (rw [opOf, e1]; simp)
            rw [ho']
        · rename_i hc
          split at h
          · cases h
          · rename_i hcl
            split at h
            · cases h
            · rename_i hd
              split at h
              · cases h
              · cases h
              · rename_i r' k he
                have b1 := (fuel_bounds f).2.2.1 _ _ _ _ _ _ _ he
                have hkj : k ≤ j := by
                  split at h
                  · split at h
                    · exact ((fuel_bounds f).2.2.2 _ _ _ _ _ _ _ _ h b1.2).1
                    · cases h
                  · exact ((fuel_bounds f).2.2.2 _ _ _ _ _ _ _ _ h b1.2).1
                have he' := h3 _ _ _ _ _ _ he (by omega)
                rw [Nat.add_right_comm] at he'
                have e0 := P.same i (by omega)
                rw [e0, ho]
                simp only
                rw [if_neg hc, if_neg hcl, if_neg hd, he']
                simp only
                split at h
                · rename_i b pos hby
                  split at h
                  · rename_i hbs
                    rw [if_pos hbs]
                    exact h4 _ _ _ _ _ _ _ h (by omega) hj
                  · cases h
                · exact h4 _ _ _ _ _ _ _ h (by omega) hj
/-- The same tokens alone, and further on, are the same tree. -/
theorem Expr.part {l : List OpT} {t ahead : List Tok} {least : Int} {depth n : Nat} {m : Made} (h : Expr l t least depth 0 (.ok (m, n))) : Expr l (ahead ++ t.take n) least depth ahead.length (.ok (m, n + ahead.length)) := by
  obtain ⟨f, h⟩ := h
  have hn := ((fuel_bounds f).2.2.1 _ _ _ _ _ _ _ h).2
  have := (part_fuel (part_of (ahead := ahead) hn) hn f).2.2.1 _ _ _ _ _ _ h (Nat.le_refl _)
  rw [Nat.zero_add] at this
  exact ⟨f, this⟩
/-- What is wrong has a number. -/
theorem err_fuel : ∀ (f : Nat),
    (∀ l t depth i b, atomF f l t depth i = some (.error b) → (b.e != 0) = true) ∧
    (∀ l t depth i p pos last b, argsF f l t depth i p pos last = some (.error b) → (b.e != 0) = true) ∧
    (∀ l t least depth i b, exprF f l t least depth i = some (.error b) → (b.e != 0) = true) ∧
    (∀ l t least depth i m b, chainF f l t least depth i m = some (.error b) → (b.e != 0) = true)
  | 0 => ⟨fun _ _ _ _ _ h => by simp [atomF] at h, fun _ _ _ _ _ _ _ _ h => by simp [argsF] at h, fun _ _ _ _ _ _ h => by simp [exprF] at h, fun _ _ _ _ _ _ _ h => by simp [chainF] at h⟩
  | f + 1 => by
    obtain ⟨h1, h2, h3, h4⟩ := err_fuel f
    refine ⟨fun l t depth i b h => ?_, fun l t depth i p pos last b h => ?_, fun l t least depth i b h => ?_, fun l t least depth i m b h => ?_⟩
    · rw [atomF] at h
      simp only at h
      repeat' split at h
      all_goals first
        | (cases h; done)
        | (injection h with h; injection h with h; subst h; rfl)
        | (injection h with h; injection h with h; subst h; rename_i he; exact h3 _ _ _ _ _ _ he)
        | (injection h with h; cases h)
    · rw [argsF] at h
      repeat' split at h
      all_goals first
        | (cases h; done)
        | (injection h with h; injection h with h; subst h; rename_i he; exact h1 _ _ _ _ _ he)
        | exact h2 _ _ _ _ _ _ _ _ h
        | (injection h with h; cases h)
    · rw [exprF] at h
      repeat' split at h
      all_goals first
        | (cases h; done)
        | (injection h with h; injection h with h; subst h; rename_i he; exact h1 _ _ _ _ _ he)
        | (injection h with h; injection h with h; subst h; rename_i he; exact h2 _ _ _ _ _ _ _ _ he)
        | exact h4 _ _ _ _ _ _ _ h
        | (injection h with h; cases h)
    · rw [chainF] at h
      repeat' split at h
      all_goals first
        | (cases h; done)
        | (injection h with h; injection h with h; subst h; rfl)
        | (injection h with h; injection h with h; subst h; rename_i he; exact h3 _ _ _ _ _ _ he)
        | exact h4 _ _ _ _ _ _ _ h
        | (injection h with h; cases h)
theorem Expr.err {l : List OpT} {t : List Tok} {least : Int} {depth i : Nat} {b : Bad} (h : Expr l t least depth i (.error b)) : (b.e != 0) = true := by
  obtain ⟨f, h⟩ := h
  exact (err_fuel f).2.2.1 _ _ _ _ _ _ h
end Go.Lamb
namespace Go.Lamb
open Go Go.RowKit

end Go.Lamb
namespace Go.Lamb
open Go Go.RowKit

mutual
def Pre.shift (K : Nat) : Pre → Pre
  | .mk k s n l a => .mk k s n (Pre.shifts K l) (a + K)
def Pre.shifts (K : Nat) : List Pre → List Pre
  | [] => []
  | p :: l => p.shift K :: Pre.shifts K l
end
def Made.shift (K : Nat) (m : Made) : Made := ⟨m.p.shift K, m.by_.map fun x => (x.1, x.2 + K)⟩
section
variable {t t' : List Tok} {K m : Nat}
def Sent.shift (K : Nat) (s : Sent) : Sent := ⟨s.k, s.names, s.n, s.ty, s.op, if s.k = 3 then s.body.shift K else s.body, s.pos + K⟩
end
end Go.Lamb
namespace Go.Lamb
open Go Go.RowKit

section
variable {t t' : List Tok}
end
end Go.Lamb
namespace Go.Lamb
open Go Go.RowKit

end Go.Lamb
namespace Go.Lamb
open Go Go.RowKit

theorem fit_str {κ : K} (s : ByteArray) (h : s.size ≤ maxLen) : RV κ (S s.data.toList) (.string s) := by
  have := RC.str (m := κ.m) s.data.toList (by simpa using h)
  rw [← bs_of] at this
  exact .c this
end Go.Lamb
namespace Go.Lamb
open Go Go.RowKit

mutual
def tyAtomQ : Nat → List Tok → Nat → Nat → List Str → Option TyO
  | 0, _, _, _, _ => none
  | f + 1, t, depth, i, vs =>
    if (tokL t i).kind = 1 then some ⟨.con (tokL t i).text, (i + 1 : Nat), vs, 0, 0⟩
    else if (tokL t i).kind = 2 then some ⟨.var (vnum vs (tokL t i).text), (i + 1 : Nat), vadd vs (tokL t i).text, 0, 0⟩
    else if (tokL t i).kind = 5 then
      if 200 ≤ depth then some ⟨.none, (i + 1 : Nat), vs, 31, (tokL t i).pos⟩
      else match tyTypeQ f t (depth + 1) (i + 1) vs with
        | none => none
        | some o => some (closeO t o)
    else some ⟨.none, (i : Nat), vs, 50, (tokL t i).pos⟩
def tyArgsQ : Nat → List Tok → Nat → TyO → Option TyO
  | 0, _, _, _ => none
  | f + 1, t, depth, o =>
    if o.e = 0 ∧ tyBegins (tokI t o.j) = true then
      match tyAtomQ f t depth o.j.toNat o.ws with
      | none => none
      | some a => tyArgsQ f t depth ⟨o.u.put a.u, a.j, a.ws, a.e, a.p⟩
    else some o
def tyTailQ : Nat → List Tok → Nat → TyO → Option TyO
  | 0, _, _, _ => none
  | f + 1, t, depth, o =>
    if o.e = 0 ∧ (tokI t o.j).kind = 4 ∧ (tokI t o.j).text = [45, 62] then
      if 200 ≤ depth then some ⟨.none, o.j, o.ws, 31, (tokI t o.j).pos⟩
      else match tyTypeQ f t (depth + 1) (o.j + 1).toNat o.ws with
        | none => none
        | some y => some ⟨.arr o.u y.u, y.j, y.ws, y.e, y.p⟩
    else some o
def tyTypeQ : Nat → List Tok → Nat → Nat → List Str → Option TyO
  | 0, _, _, _, _ => none
  | f + 1, t, depth, i, vs => match tyAtomQ f t depth i vs with
    | none => none
    | some o => match (if (tokL t i).kind = 1 then tyArgsQ f t depth o else some o) with
      | none => none
      | some o2 => tyTailQ f t depth o2
end
end Go.Lamb
namespace Go.Lamb
open Go Go.RowKit

/-- The heap with these four blocks, from b on. -/
def rfour (σ : H) (b : Nat) (X Y Z U : Blk) : H := (((σ.set b X).set (b + 1) Y).set (b + 2) Z).set (b + 3) U
section
variable {σ : H} {b : Nat}
@[simp] theorem rf_len (X Y Z U : Blk) : (rfour σ b X Y Z U).length = σ.length := by simp [rfour]
theorem rf_g0 (x : Blk) (L : H) (X Y Z U : Blk) : (rfour σ b X Y Z U ++ x :: L)[σ.length]? = some x := by
  rw [List.getElem?_append_right (by simp), rf_len, Nat.sub_self]; rfl
theorem rf_g (k : Nat) (L : H) (X Y Z U : Blk) : (rfour σ b X Y Z U ++ L)[σ.length + k]? = L[k]? := by
  rw [List.getElem?_append_right (by simp), rf_len, Nat.add_sub_cancel_left]
theorem rf_t0 (x : Blk) (L : H) (X Y Z U : Blk) : (rfour σ b X Y Z U ++ L).set σ.length x = rfour σ b X Y Z U ++ L.set 0 x := by
  rw [List.set_append_right _ _ (by simp), rf_len, Nat.sub_self]
theorem rf_t (k : Nat) (x : Blk) (L : H) (X Y Z U : Blk) : (rfour σ b X Y Z U ++ L).set (σ.length + k) x = rfour σ b X Y Z U ++ L.set k x := by
  rw [List.set_append_right _ _ (by simp), rf_len, Nat.add_sub_cancel_left]
end
end Go.Lamb
namespace Go.Lamb
open Go Go.RowKit
structure Keeps (s u : Sg) : Prop where
  k : ∀ n y, kindL s.kinds n = some y → kindL u.kinds n = some y
  t : ∀ n y, findN s.types n = some y → findN u.types n = some y
  o : ∀ n y, findL s.ops n = some y → findL u.ops n = some y
theorem Keeps.trans {s t u : Sg} (h : Keeps s t) (g : Keeps t u) : Keeps s u := ⟨fun n y e => g.k n y (h.k n y e), fun n y e => g.t n y (h.t n y e), fun n y e => g.o n y (h.o n y e)⟩
structure Has (x : Sent) (u : Sg) (n : Str) : Prop where
  k : x.k = 0 → kindL u.kinds n = some ⟨n, x.n⟩
  t : x.k = 1 → findN u.types n = some ⟨n, x.ty⟩
  o : x.k = 2 → findL u.ops n = some (opN x n)
theorem Has.more {x : Sent} {s t : Sg} {n : Str} (h : Has x s n) (g : Keeps s t) : Has x t n := ⟨fun e => g.k _ _ (h.k e), fun e => g.t _ _ (h.t e), fun e => g.o _ _ (h.o e)⟩
theorem addS_ok {s : Sg} {x : Sent} (h : (addS s x).2 = 0) : ¬ (x.k < 0 ∨ 3 < x.k) ∧ addsL x s x.names = .ok (addS s x).1 := by
  unfold addS at h ⊢
  by_cases h1 : x.k < 0 ∨ 3 < x.k
  · rw [if_pos h1] at h; cases h
  rw [if_neg h1] at h ⊢
  by_cases h2 : x.k = 1 ∧ fitsT s.kinds x.ty = false
  · rw [if_pos h2] at h; cases h
  rw [if_neg h2] at h ⊢
  cases e : addsL x s x.names with
  | ok t => exact ⟨h1, rfl⟩
  | error e' =>
    rw [e] at h
    have := adds_err x _ _ _ e
    have h' : e' = 0 := h
    rw [h'] at this
    cases this
end Go.Lamb
namespace Go.Lamb
open Go Go.RowKit
theorem namesS_count {t : List Tok} {s : Bool} : ∀ (n i : Nat) (acc : List Tok) (r : List Tok) (j : Nat), t.length - i ≤ n → namesS t s i acc = .ok (r, j) → r.length + i ≤ acc.length + j
  | n, i, acc, r, j, hn, h => by
    induction n using Nat.strongRecOn generalizing i acc with
    | ind n ih =>
      rw [namesS_eq] at h
      split at h
      · rename_i h1
        have hi : i < t.length := tokL_lt fun e => by rw [nameHere, e] at h1; simp at h1
        split at h
        · have := ih (t.length - (i + 2)) (by omega) (i + 2) _ (Nat.le_refl _) h
          rw [List.length_append] at this
          simp only [List.length_cons, List.length_nil] at this
          omega
        · injection h with h; injection h with h1 h2
          rw [← h1, List.length_append]
          simp only [List.length_cons, List.length_nil]
          omega
      · cases h
def declT (prec fix : Int) : List OpT → List Str → Option (List OpT)
  | l, [] => some l
  | l, x :: r => if wrongL l ⟨x, prec, fix⟩ = 0 then declT prec fix (l ++ [⟨x, prec, fix⟩]) r else none
theorem declT_of {prec fix : Int} : ∀ {ns : List Tok} {l l' : List OpT}, declL prec fix l ns = .ok l' → declT prec fix l (ns.map (·.text)) = some l'
  | [], l, l', h => by
    rw [declL] at h
    injection h with h
    subst h
    rfl
  | x :: r, l, l', h => by
    rw [declL] at h
    rw [List.map_cons, declT]
    by_cases h0 : wrongL l ⟨x.text, prec, fix⟩ = 0
    · rw [if_pos h0] at h ⊢; exact declT_of h
    · rw [if_neg h0] at h; cases h
/-- What a sentence that was read does to the operators; and how many names it has. -/
def Reads (t : List Tok) (s : Sent) (l l' : List OpT) : Prop := s.names.length ≤ t.length ∧ ((s.k = 2 ∧ declT s.op.prec s.op.fix l s.names = some l') ∨ (s.k ≠ 2 ∧ l' = l))
theorem end_reads {t : List Tok} {s s' : Sent} {i j : Nat} {l l' : List OpT} (hk : s.k ≠ 2) (hn : s.names.length ≤ t.length) (h : endS t s i l = .ok (s', j, l')) : Reads t s' l l' := by
  unfold endS at h
  by_cases c : (tokL t i).kind = 7
  · rw [if_pos c] at h
    injection h with h; injection h with h1 h2; injection h2 with h2 h3
    subst h1 h3
    exact ⟨hn, .inr ⟨hk, rfl⟩⟩
  · rw [if_neg c] at h; cases h
theorem op_reads {t : List Tok} {i j : Nat} {pos fix : Int} {l l' : List OpT} {s : Sent} (h : opSent t i pos fix l = .ok (s, j, l')) : Reads t s l l' := by
  unfold opSent at h
  cases hn : namesS t true i [] with
  | error b => rw [hn] at h; cases h
  | ok x =>
    obtain ⟨ns, k⟩ := x
    rw [hn] at h
    simp only at h
    have hc := namesS_count _ _ _ _ _ (Nat.le_refl _) hn
    have hf := namesS_far _ _ _ _ _ (Nat.le_refl _) hn
    simp only [List.length_nil] at hc
    by_cases c1 : (tokL t k).kind = 3
    · rw [if_pos c1] at h
      by_cases c2 : (tokL t (k + 1)).kind = 7
      · rw [if_pos c2] at h
        cases hd : declL (tokL t k).n fix l ns with
        | error b => rw [hd] at h; cases h
        | ok l2 =>
          rw [hd] at h
          injection h with h; injection h with h1 h2; injection h2 with h2 h3
          subst h1 h3
          exact ⟨by show (ns.map (·.text)).length ≤ _; rw [List.length_map]; omega, .inl ⟨rfl, declT_of hd⟩⟩
      · rw [if_neg c2] at h; cases h
    · rw [if_neg c1] at h; cases h
theorem sent_reads {t : List Tok} {i j : Nat} {l l' : List OpT} {s : Sent} (h : sentS t l i = .ok (s, j, l')) : Reads t s l l' := by
  unfold sentS at h
  simp only at h
  by_cases c1 : (tokL t i).kind = 1 ∧ (tokL t i).text = [107, 105, 110, 100]
  · rw [if_pos c1] at h
    unfold kindSent at h
    cases hn : namesS t false (i + 1) [] with
    | error b => rw [hn] at h; cases h
    | ok x =>
      obtain ⟨ns, k⟩ := x
      rw [hn] at h
      simp only at h
      have hc := namesS_count _ _ _ _ _ (Nat.le_refl _) hn
      have hf := namesS_far _ _ _ _ _ (Nat.le_refl _) hn
      simp only [List.length_nil] at hc
      cases hk : kindS t k 0 with
      | error b => rw [hk] at h; cases h
      | ok y =>
        rw [hk] at h
        exact end_reads (by show (0 : Int) ≠ 2; decide) (by show (ns.map (·.text)).length ≤ _; rw [List.length_map]; omega) h
  rw [if_neg c1] at h
  by_cases c2 : (tokL t i).kind = 1 ∧ (tokL t i).text = [116, 121, 112, 101]
  · rw [if_pos c2] at h
    unfold typeSent at h
    cases hn : namesS t true (i + 1) [] with
    | error b => rw [hn] at h; cases h
    | ok x =>
      obtain ⟨ns, k⟩ := x
      rw [hn] at h
      simp only at h
      have hc := namesS_count _ _ _ _ _ (Nat.le_refl _) hn
      have hf := namesS_far _ _ _ _ _ (Nat.le_refl _) hn
      simp only [List.length_nil] at hc
      cases hk : tyT t k with
      | error b => rw [hk] at h; cases h
      | ok y =>
        rw [hk] at h
        exact end_reads (by show (1 : Int) ≠ 2; decide) (by show (ns.map (·.text)).length ≤ _; rw [List.length_map]; omega) h
  rw [if_neg c2] at h
  by_cases c3 : (tokL t i).kind = 1 ∧ (tokL t i).text = [105, 110, 102, 105, 120]
  · rw [if_pos c3] at h; exact op_reads h
  rw [if_neg c3] at h
  by_cases c4 : (tokL t i).kind = 1 ∧ (tokL t i).text = [105, 110, 102, 105, 120, 108]
  · rw [if_pos c4] at h; exact op_reads h
  rw [if_neg c4] at h
  by_cases c5 : (tokL t i).kind = 1 ∧ (tokL t i).text = [105, 110, 102, 105, 120, 114]
  · rw [if_pos c5] at h; exact op_reads h
  rw [if_neg c5] at h
  unfold clauseSent at h
  cases hk : exprT l t i with
  | error b => rw [hk] at h; cases h
  | ok y =>
    rw [hk] at h
    exact end_reads (by show (3 : Int) ≠ 2; decide) (Nat.zero_le _) h
theorem addsL_op {x : Sent} (hk : x.k = 2) : ∀ {ns : List Str} {s t : Sg} {l' : List OpT}, addsL x s ns = .ok t → declT x.op.prec x.op.fix s.ops ns = some l' → t.ops = l'
  | [], s, t, l', h, hd => by
    rw [addsL] at h
    injection h with h
    rw [declT] at hd
    injection hd with hd
    rw [← h, hd]
  | n :: r, s, t, l', h, hd => by
    rw [addsL] at h
    rw [declT] at hd
    by_cases h0 : (addN s x n).2 = 0
    · rw [if_pos h0] at h
      have e0 : x.k ≠ 0 := by omega
      have e1 : x.k ≠ 1 := by omega
      unfold addN at h h0
      rw [if_neg e0, if_neg e1, if_pos hk] at h h0
      have hw : wrongL s.ops ⟨n, x.op.prec, x.op.fix⟩ = 0 := h0
      rw [if_pos hw] at hd
      have hw2 : wrongL s.ops (opN x n) = 0 := h0
      rw [if_pos hw2] at h
      exact addsL_op hk h hd
    · rw [if_neg h0] at h; cases h
theorem addsL_same {x : Sent} (hk : x.k ≠ 2) : ∀ {ns : List Str} {s t : Sg}, addsL x s ns = .ok t → t.ops = s.ops
  | [], s, t, h => by
    rw [addsL] at h
    injection h with h
    rw [← h]
  | n :: r, s, t, h => by
    rw [addsL] at h
    by_cases h0 : (addN s x n).2 = 0
    · rw [if_pos h0] at h
      rw [addsL_same hk h]
      unfold addN
      split
      · rfl
      · split
        · rfl
        · rfl
    · rw [if_neg h0] at h; cases h
theorem reads_ops {t : List Tok} {x : Sent} {l l' : List OpT} {s : Sg} (h : Reads t x l l') (hs : s.ops = l) (he : (addS s x).2 = 0) : (addS s x).1.ops = l' := by
  obtain ⟨_, ha⟩ := addS_ok he
  rcases h.2 with ⟨hk, hd⟩ | ⟨hk, rfl⟩
  · subst hs
    exact addsL_op hk ha hd
  · rw [addsL_same hk ha, hs]
/-- All sentences, one by one: the signature, or the first error with its sentence. -/
def sigAll : Sg → List Sent → Nat → Sg × Int × Nat
  | s, [], _ => (s, 0, 0)
  | s, x :: r, i => if (addS s x).2 = 0 then sigAll (addS s x).1 r (i + 1) else (Sg.none, (addS s x).2, i)
/-- Sentences, each with what it does to the operators. -/
inductive Run (t : List Tok) : List OpT → List Sent → List OpT → Prop where
  | nil (l : List OpT) : Run t l [] l
  | cons {l l' l2 : List OpT} {x : Sent} {r : List Sent} (h : Reads t x l l') (hr : Run t l' r l2) : Run t l (x :: r) l2
theorem allS_run {t : List Tok} : ∀ (n : Nat) (l : List OpT) (i : Nat) (acc xs : List Sent) (l' : List OpT), t.length - i ≤ n → allS t l i acc = .ok (xs, l') → ∃ r, xs = acc ++ r ∧ Run t l r l'
  | n, l, i, acc, xs, l', hn, h => by
    rw [allS_eq] at h
    split at h
    · injection h with h; injection h with h1 h2
      subst h1 h2
      exact ⟨[], (List.append_nil _).symm, .nil _⟩
    · rename_i h0
      have := tokL_lt h0
      split at h
      · cases h
      · rename_i s j l2 hs
        have hf := sentS_far hs
        cases n with
        | zero => omega
        | succ n =>
          obtain ⟨r, hr, hrun⟩ := allS_run n l2 j (acc ++ [s]) xs l' (by omega) h
          exact ⟨s :: r, by rw [hr, List.append_assoc]; rfl, .cons (sent_reads hs) hrun⟩
theorem run_names {t : List Tok} {l l' : List OpT} {xs : List Sent} (h : Run t l xs l') : ∀ x ∈ xs, x.names.length ≤ t.length := by
  induction h with
  | nil => intro x hx; cases hx
  | cons h hr ih =>
    intro x hx
    rcases List.mem_cons.1 hx with rfl | hx
    · exact h.1
    · exact ih x hx
theorem run_ops {t : List Tok} {l l' : List OpT} {xs : List Sent} (h : Run t l xs l') : ∀ (s : Sg) (i : Nat), s.ops = l → (sigAll s xs i).2.1 = 0 → (sigAll s xs i).1.ops = l' := by
  induction h with
  | nil l => intro s i hs _; exact hs
  | cons h hr ih =>
    intro s i hs he
    rw [sigAll] at he ⊢
    split at he
    · rename_i h0
      rw [if_pos h0]
      exact ih _ _ (reads_ops h hs h0) he
    · rename_i h0
      exact absurd he h0
/-- What may stand: as many as the program allows. -/
theorem addN_most {s : Sg} {x : Sent} {n : Str} (hs : s.kinds.length ≤ 1024 ∧ s.types.length ≤ 1024 ∧ s.ops.length ≤ 1024) (h : (addN s x n).2 = 0) : (addN s x n).1.kinds.length ≤ 1024 ∧ (addN s x n).1.types.length ≤ 1024 ∧ (addN s x n).1.ops.length ≤ 1024 := by
  have hm : ∀ {ok there : Bool} {n : Nat}, mayE ok there n = 0 → n < 1024 := fun {ok there n} h => by
    unfold mayE at h
    cases ok <;> cases there <;> simp at h
    exact h
  unfold addN at h ⊢
  by_cases h0 : x.k = 0
  · rw [if_pos h0] at h ⊢
    have := hm h
    refine ⟨?_, hs.2.1, hs.2.2⟩
    show (s.kinds ++ [_]).length ≤ 1024
    rw [List.length_append]; simp only [List.length_cons, List.length_nil]; omega
  rw [if_neg h0] at h ⊢
  by_cases h1 : x.k = 1
  · rw [if_pos h1] at h ⊢
    have := hm h
    refine ⟨hs.1, ?_, hs.2.2⟩
    show (s.types ++ [_]).length ≤ 1024
    rw [List.length_append]; simp only [List.length_cons, List.length_nil]; omega
  rw [if_neg h1] at h ⊢
  by_cases h2 : x.k = 2
  · rw [if_pos h2] at h ⊢
    have hw : wrongL s.ops (opN x n) = 0 := h
    simp only [if_pos hw]
    have : s.ops.length < 64 := by
      unfold wrongL at hw
      repeat' split at hw
      all_goals first | (cases hw; done) | omega
    refine ⟨hs.1, hs.2.1, ?_⟩
    rw [List.length_append]; simp only [List.length_cons, List.length_nil]; omega
  rw [if_neg h2]
  exact hs
theorem adds_most {x : Sent} : ∀ {l : List Str} {s t : Sg}, s.kinds.length ≤ 1024 ∧ s.types.length ≤ 1024 ∧ s.ops.length ≤ 1024 → addsL x s l = .ok t → t.kinds.length ≤ 1024 ∧ t.types.length ≤ 1024 ∧ t.ops.length ≤ 1024
  | [], s, t, hs, h => by
    rw [addsL] at h
    injection h with h
    subst h
    exact hs
  | m :: l, s, t, hs, h => by
    rw [addsL] at h
    by_cases h0 : (addN s x m).2 = 0
    · rw [if_pos h0] at h
      exact adds_most (addN_most hs h0) h
    · rw [if_neg h0] at h; cases h
theorem addS_most {s : Sg} {x : Sent} (hs : s.kinds.length ≤ 1024 ∧ s.types.length ≤ 1024 ∧ s.ops.length ≤ 1024) (h : (addS s x).2 = 0) : (addS s x).1.kinds.length ≤ 1024 ∧ (addS s x).1.types.length ≤ 1024 ∧ (addS s x).1.ops.length ≤ 1024 :=
  adds_most hs (addS_ok h).2
theorem sigAll_go {s : Sg} {xs : List Sent} {i : Nat} (hi : i < xs.length) (h : (addS s xs[i]).2 = 0) : sigAll s (xs.drop i) i = sigAll (addS s xs[i]).1 (xs.drop (i + 1)) (i + 1) := by
  rw [List.drop_eq_getElem_cons hi, sigAll, if_pos h]
theorem sigAll_stop {s : Sg} {xs : List Sent} {i : Nat} (hi : i < xs.length) (h : (addS s xs[i]).2 ≠ 0) : sigAll s (xs.drop i) i = (Sg.none, (addS s xs[i]).2, i) := by
  rw [List.drop_eq_getElem_cons hi, sigAll, if_neg h]
theorem sigAll_end {s : Sg} {xs : List Sent} {i : Nat} (hi : xs.length ≤ i) : sigAll s (xs.drop i) i = (s, 0, 0) := by
  rw [List.drop_of_length_le hi, sigAll]
end Go.Lamb

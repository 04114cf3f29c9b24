/-
  Walks: which terms may be, by the document.
  Walks: small functions that make trees of terms.
  Walks: a number as a tree.
  The code of some functions, without addresses.
  Walks: the document's digits of a number.
  Walks: the document's names of binders.
  Plain: names by their places; a term as a tree.
  Walks: the document's tree of a term: leaves.
  Walks: the document's tree of a term: more leaves.
  Walks: the document's tree of a term: variables, and what is bound.
  Walks: the document's tree of a term: an abstraction.
  Walks: the document's tree of a term: an application; all terms.
  Plain: terms that are applied; terms with other leaves.
  Walks: terms that are applied.
  The code of some functions, without addresses.
  Walks: a term with other leaves.
  Walks: a term whose loose ones are greater; a term with another one in the place of what is bound.
  Walks: a term with others in the place of what is bound: the body of the loop (clause.Open$2).
  Walks over worlds: a slice of terms, from its end on.
  Walks over worlds: a term with another one in the place of what is bound (clause.Open$2, one term at most).
  Walks over worlds: a round of clause.Open's loop.
  Walks over worlds: clause.Open$2, one term at most.
  Walks: a term with others in the place of what is bound (clause.Open$2, one term at most).
  Walks: strings.Builder in a writer's block: what its writing methods call first.
  The code of some functions, without addresses.
  Walks: what a writer writes: strings.Builder's methods at a writer's block.
  Walks: strings.Builder's String at a writer's block.
  Walks: strings.Builder at a block of its own.
  Walks: sentences are added to a signature.
  Walks: a name of a sentence is added; a sentence is added.
  Walks: the document's answer: a name of a sentence is added.
  Walks: the document's answer: a sentence is added; when two signatures are the same.
  The code of some functions, without addresses.
  Walks: rows of constants, one behind the other.
  The code of some functions, without addresses.
  Walks: which trees could have been read, which are the same, and how large they are.
  Walks: which trees could have been read, which are the same, and how large they are.
  Walks: which trees could have been read, by both.
  Walks: which trees could have been read, and which are the same, in the document's words; how large they are.
  Walks: which trees could have been read, in the document's words; what is more than is looked at.
  Walks: the document's reader, an atom.
  Walks: the document's reader, atoms applied.
  Walks: the document's reader, an expression; and its Read.
  Walks: the document's Read.
  Walks: what is more than is looked at; the statements' own functions.
  Walks: what is more than is looked at (layer 4).
  The code of some functions, without addresses.
  Walks: what a tree is; the operator that makes it.
  Walks: what is no operator's, no abstraction and no application, written.
  The code of some functions, without addresses.
-/
import Derived.Test.YtpcmcfajfnpjeaaGreatDoorQJ35
import Derived.Test.YtpcmcfajfnpjeaaGreatDoorChecked
import Derived.Test.YtpcmcfajfnpjeaaGreatDoorQJ14
import Derived.Lib.ItoaLen
import Derived.Test.YtpcmcfajfnpjeaaGreatDoorQLexBk
import Derived.Test.YtpcmcfajfnpjeaaGreatDoorQJ12
import Derived.Test.YtpcmcfajfnpjeaaGreatDoorQTyA2
import Derived.Test.YtpcmcfajfnpjeaaGreatDoorQLexA
import Derived.Lib.Builder
import Derived.Laws.Externs
import Derived.OwnWalk
import Derived.Handy
import Derived.BigRegion
import Derived.Lib.ItoaMem
import Derived.Test.YtpcmcfajfnpjeaaGreatDoorQLexC
import Derived.Test.YtpcmcfajfnpjeaaGreatDoorQRefH
import Derived.Test.YtpcmcfajfnpjeaaGreatDoorQRefI
import Derived.Test.YtpcmcfajfnpjeaaGreatDoorQLxD
import Derived.Test.YtpcmcfajfnpjeaaGreatDoorQLexG
set_option linter.unusedSimpArgs false
set_option linter.unusedVariables false
set_option maxHeartbeats 8000000
set_option maxRecDepth 20000
namespace Go.Lamb
open Go Go.RowKit
def numP (n : Int) : Pre := if 0 ≤ n then .mk 2 [] n [] 0 else .app (.mk 0 [126] 0 [] 0) (.mk 2 [] (-(if -9223372036854775807 > n then -9223372036854775807 else n)) [] 0) 0
end Go.Lamb
namespace Go.Lamb
open Go Go.RowKit
def DgInv (N : Nat) (x : Nat × List UInt8) : Prop := x.1 ≤ N ∧ ((x.2 = [] ∧ x.1 = N) ∨ (x.2 ≠ [] ∧ (x.1 = 0 → x.2 = Lib.decDigits N) ∧ (0 < x.1 → Lib.decDigits x.1 ++ x.2 = Lib.decDigits N)))
theorem dg_next {N m : Nat} {s : List UInt8} (h : DgInv N (m, s)) (hm : 0 < m ∨ s = []) : DgInv N (m / 10, UInt8.ofNat (48 + m % 10) :: s) := by
  obtain ⟨h0, h⟩ := h
  refine ⟨by show m / 10 ≤ N; have : m ≤ N := h0; omega, .inr ⟨by simp, ?_⟩⟩
  have key : Lib.decDigits m ++ s = Lib.decDigits N := by
    rcases h with ⟨h1, h2⟩ | ⟨h1, h2, h3⟩
    · have h1 : s = [] := h1
      have h2 : m = N := h2
      rw [h1, h2, List.append_nil]
    · rcases hm with hm | hm
      · exact h3 hm
      · exact absurd hm h1
  refine ⟨fun e => ?_, fun e => ?_⟩
  · have hlt : m < 10 := by have : m / 10 = 0 := e; omega
    rw [← key, Lib.decDigits, dif_pos hlt, Nat.mod_eq_of_lt hlt]
    rfl
  · have hlt : ¬ m < 10 := by have : 0 < m / 10 := e; omega
    show Lib.decDigits (m / 10) ++ _ = _
    rw [← key]
    conv => rhs; rw [Lib.decDigits, dif_neg hlt]
    rw [List.append_assoc]
    rfl
theorem dg_len {N m : Nat} {s : List UInt8} (hN : N ≤ 9223372036854775807) (h : DgInv N (m, s)) : s.length ≤ 21 := by
  have h21 : (Lib.decDigits N).length ≤ 21 := by
    have := Lib.itoa_length_le (N : Int) (by omega) (by omega)
    unfold Lib.itoa at this
    rw [if_neg (by omega)] at this
    simpa using this
  obtain ⟨h0, h⟩ := h
  rcases h with ⟨h1, h2⟩ | ⟨h1, h2, h3⟩
  · have h1 : s = [] := h1
    rw [h1]; simp
  · rcases Nat.eq_zero_or_pos m with e | e
    · have := h2 e
      have : s = Lib.decDigits N := this
      rw [this]; exact h21
    · have := congrArg List.length (h3 e)
      rw [List.length_append] at this
      have : (Lib.decDigits m).length + s.length = (Lib.decDigits N).length := this
      omega
end Go.Lamb
namespace Go.Lamb
open Go Go.RowKit
def nmX (n : Nat) : Str := 120 :: Lib.decDigits n
def takenX (s : Sg) (vars : List Str) (name : Str) : Bool := (findN s.types name).isSome || (findL s.ops name).isSome || vars.contains name
def tkX (s : Sg) (vars : List Str) (n : Nat) : Bool := takenX s vars (nmX n)
end Go.Lamb
namespace Go.Lamb
open Go Go.RowKit

theorem nmX_inj (a b : Nat) (h : nmX a = nmX b) : a = b := by
  unfold nmX at h
  injection h with _ h
  have h1 := dec_val a
  have h2 := dec_val b
  rw [h] at h1
  exact h1.symm.trans h2
def takenT (s : Sg) (vars : List Str) : List Str := s.types.map (·.name) ++ s.ops.map (·.name) ++ vars
theorem tkX_mem {s : Sg} {vars : List Str} {k : Nat} (h : tkX s vars k = true) : nmX k ∈ takenT s vars := by
  unfold tkX takenX at h
  simp only [Bool.or_eq_true] at h
  unfold takenT
  rw [List.mem_append, List.mem_append]
  rcases h with (h | h) | h
  · obtain ⟨x, hx⟩ := Option.isSome_iff_exists.1 h
    have h1 := List.mem_of_find?_eq_some hx
    have h2 := List.find?_some hx
    have e : x.name = nmX k := by simpa using h2
    exact .inl (.inl (List.mem_map.2 ⟨x, h1, e⟩))
  · obtain ⟨x, hx⟩ := Option.isSome_iff_exists.1 h
    have h1 := List.mem_of_find?_eq_some hx
    have h2 := List.find?_some hx
    have e : x.name = nmX k := by simpa using h2
    exact .inl (.inr (List.mem_map.2 ⟨x, h1, e⟩))
  · exact .inr (List.contains_iff_mem.1 h)
noncomputable def numAt (s : Sg) (vars : List Str) (i : Nat) : Nat := (nameAt_ex (tk := tkX s vars) nmX_inj (fun _ h => tkX_mem h) i).choose
theorem numAt_le (s : Sg) (vars : List Str) (i : Nat) : numAt s vars i ≤ i + (takenT s vars).length := (nameAt_ex (tk := tkX s vars) nmX_inj (fun _ h => tkX_mem h) i).choose_spec.1
theorem numAt_at (s : Sg) (vars : List Str) (i : Nat) : NameAt (tkX s vars) i (numAt s vars i) := (nameAt_ex (tk := tkX s vars) nmX_inj (fun _ h => tkX_mem h) i).choose_spec.2
noncomputable def nameM (s : Sg) (vars : List Str) (i : Nat) : Str := nmX (numAt s vars i + 1)
def appsP : List Pre → Pre
  | [] => .none
  | x :: l => l.foldl (fun a b => .app a b 0) x
noncomputable def leafP (s : Sg) (vars : List Str) (k : Nat) (t : Typ) : Pre :=
  if t.k = 2 then numP t.n
  else if t.k = 4 then (if t.n < vars.length then .mk 1 (vars.getD t.n.toNat []) 0 [] 0 else .mk 1 (95 :: Lib.decDigits t.n.toNat) 0 [] 0)
  else if t.k = 1 then .mk 0 (99 :: 39 :: Lib.decDigits t.n.toNat) 0 [] 0
  else if t.k = 3 then (if t.n < k then .mk 0 (nameM s vars (k - 1 - t.n.toNat)) 0 [] 0 else .mk 0 (98 :: 39 :: Lib.decDigits (t.n.toNat - k)) 0 [] 0)
  else .mk 0 t.name 0 [] 0
mutual
noncomputable def treeM (s : Sg) (vars : List Str) (k : Nat) : Typ → Pre
  | .mk kd a n l => if kd = 5 then .mk 4 (nameM s vars k) 0 (treesM s vars (k + 1) l) 0 else if kd = 6 then appsP (treesM s vars k l) else leafP s vars k (.mk kd a n l)
noncomputable def treesM (s : Sg) (vars : List Str) (k : Nat) : List Typ → List Pre
  | [] => []
  | x :: l => treeM s vars k x :: treesM s vars k l
end
theorem treesM_map (s : Sg) (vars : List Str) (k : Nat) (l : List Typ) : treesM s vars k l = l.map (treeM s vars k) := by
  induction l with
  | nil => rfl
  | cons x l ih => rw [treesM, ih]; rfl
theorem treeM_eq (s : Sg) (vars : List Str) (k : Nat) (t : Typ) : treeM s vars k t = if t.k = 5 then .mk 4 (nameM s vars k) 0 (t.l.map (treeM s vars (k + 1))) 0 else if t.k = 6 then appsP (t.l.map (treeM s vars k)) else leafP s vars k t := by
  cases t
  rw [treeM, treesM_map, treesM_map]
  rfl
end Go.Lamb
namespace Go.Lamb
open Go Go.RowKit
noncomputable def accM (s : Sg) (vars : List Str) (k : Nat) (a : Typ) (l : List Typ) (i : Nat) : Pre := (l.take i).foldl (fun p u => .app p (treeM s vars k u) 0) (treeM s vars k a)
theorem accM_zero (s : Sg) (vars : List Str) (k : Nat) (a : Typ) (l : List Typ) : accM s vars k a l 0 = treeM s vars k a := rfl
theorem accM_succ (s : Sg) (vars : List Str) (k : Nat) (a : Typ) (l : List Typ) (i : Nat) (h : i < l.length) : accM s vars k a l (i + 1) = .app (accM s vars k a l i) (treeM s vars k l[i]) 0 := by
  unfold accM
  rw [List.take_succ_eq_append_getElem h, List.foldl_append]
  rfl
theorem accM_all (s : Sg) (vars : List Str) (k : Nat) (a : Typ) (l : List Typ) : accM s vars k a l l.length = appsP ((a :: l).map (treeM s vars k)) := by
  unfold accM appsP
  rw [List.take_length, List.map_cons]
  show _ = List.foldl (fun a b => Pre.app a b 0) (treeM s vars k a) (l.map (treeM s vars k))
  rw [List.foldl_map]
mutual
def nodesM : Typ → Nat
  | .mk _ _ _ l => 1 + nodesMs l
def nodesMs : List Typ → Nat
  | [] => 0
  | p :: l => nodesM p + nodesMs l
end
theorem nodesM_eq (p : Typ) : nodesM p = 1 + nodesMs p.l := by cases p; rw [nodesM]; rfl
theorem nodesMs_mem : ∀ {l : List Typ} {u : Typ}, u ∈ l → nodesM u ≤ nodesMs l
  | x :: l, u, h => by
    rw [nodesMs]
    rcases List.mem_cons.1 h with rfl | h
    · omega
    · have := nodesMs_mem h; omega
theorem nodesM_mem {t u : Typ} (h : u ∈ t.l) : nodesM u < nodesM t := by rw [nodesM_eq t]; have := nodesMs_mem h; omega
mutual
theorem leftT_nodesM : ∀ (p : Typ) (n : Int), 0 ≤ leftT p n → leftT p n = n - nodesM p
  | .mk _ _ _ l, n, h => by
    rw [leftT] at h ⊢
    rw [leftTs_nodesM l (n - 1) h, nodesM]
    omega
theorem leftTs_nodesM : ∀ (l : List Typ) (n : Int), 0 ≤ leftTs l n → leftTs l n = n - nodesMs l
  | [], n, h => by rw [leftTs, nodesMs]; omega
  | p :: l, n, h => by
    rw [leftTs] at h ⊢
    by_cases h0 : 0 ≤ n
    · rw [if_pos h0] at h ⊢
      by_cases h1 : 0 ≤ leftT p n
      · rw [leftTs_nodesM l _ h, leftT_nodesM p n h1, nodesMs]
        omega
      · rw [leftTs_neg h1] at h; exact absurd h h1
    · rw [if_neg h0] at h; exact absurd h h0
end
theorem nodeM_kinds {t : Typ} (h : nodeM t = true) : t.k = 0 ∨ t.k = 1 ∨ t.k = 2 ∨ t.k = 3 ∨ t.k = 4 ∨ t.k = 5 ∨ t.k = 6 := by
  unfold nodeM at h
  repeat' split at h
  all_goals first | omega | (cases h; done)
end Go.Lamb
namespace Go.Lamb
open Go Go.RowKit

def applyM (f : Typ) (args : List Typ) : Typ := if args = [] then f else .mk 6 [] 0 ((if f.k = 6 ∧ f.l ≠ [] then f.l else [f]) ++ args)
def withM (t : Typ) (l : List Typ) : Typ := if t.k = 6 ∧ 1 < l.length ∧ (l.headD .none).k = 6 ∧ (t.l.headD .none).k ≠ 6 then applyM (l.headD .none) l.tail else .mk t.k t.name t.n l
mutual
def walkM (f : Typ → Int → Typ) (k : Int) : Typ → Typ
  | .mk kd a n l => if kd = 5 then withM (.mk kd a n l) (walksM f (k + 1) l) else if kd = 6 then withM (.mk kd a n l) (walksM f k l) else f (.mk kd a n l) k
def walksM (f : Typ → Int → Typ) (k : Int) : List Typ → List Typ
  | [] => []
  | x :: l => walkM f k x :: walksM f k l
end
theorem walksM_map (f : Typ → Int → Typ) (k : Int) (l : List Typ) : walksM f k l = l.map (walkM f k) := by
  induction l with
  | nil => rfl
  | cons x l ih => rw [walksM, ih]; rfl
theorem walkM_eq (f : Typ → Int → Typ) (k : Int) (t : Typ) : walkM f k t = if t.k = 5 then withM t (t.l.map (walkM f (k + 1))) else if t.k = 6 then withM t (t.l.map (walkM f k)) else f t k := by
  cases t
  rw [walkM, walksM_map, walksM_map]
  rfl
def shiftF (a b : Int) : Typ → Int → Typ := fun u k => if u.k = 3 ∧ u.n ≥ k + a then .mk u.k u.name (u.n + b) u.l else u
def shiftM (a b : Int) (t : Typ) : Typ := walkM (shiftF a b) 0 t
def substF (i : Int) (s : Typ) : Typ → Int → Typ := fun u k => if u.k ≠ 3 ∨ u.n < k + i then u else if u.n = k + i then shiftM 0 k s else .mk u.k u.name (u.n - 1) u.l
def substM (i : Int) (s : Typ) (t : Typ) : Typ := walkM (substF i s) 0 t
/-! ### terms that may be -/
theorem near_kids {m : Int} {t : Typ} (h : nearM m t = true) : ∀ u ∈ t.l, nearM m u = true := by
  rw [nearM_eq, Bool.and_eq_true] at h
  exact List.all_eq_true.1 h.2
theorem near_node {m : Int} {t : Typ} (h : nearM m t = true) (hk : t.k ≠ 2) : -m ≤ t.n ∧ t.n ≤ m := by
  rw [nearM_eq, Bool.and_eq_true] at h
  have h := h.1
  simp [hk] at h
  omega
/-! ### shifted -/
end Go.Lamb
namespace Go.Lamb
open Go Go.RowKit
theorem nodesM_pos (t : Typ) : 1 ≤ nodesM t := by rw [nodesM_eq]; omega
theorem nodesMs_app : ∀ (a b : List Typ), nodesMs (a ++ b) = nodesMs a + nodesMs b
  | [], b => by rw [nodesMs]; simp
  | x :: a, b => by rw [List.cons_append, nodesMs, nodesMs, nodesMs_app a b]; omega
theorem nodesM_mk (k : Int) (s : Str) (n : Int) (l : List Typ) : nodesM (.mk k s n l) = 1 + nodesMs l := by rw [nodesM]
theorem nodesM_with (t : Typ) (l : List Typ) : nodesM (withM t l) ≤ 1 + nodesMs l := by
  unfold withM
  split
  · rename_i h
    obtain ⟨_, hl, hk, _⟩ := h
    match l, hl with
    | a :: b :: r, _ =>
      simp only [List.headD_cons, List.tail_cons] at hk ⊢
      unfold applyM
      rw [if_neg (by simp), nodesM_mk, nodesMs_app, show nodesMs (a :: b :: r) = nodesM a + nodesMs (b :: r) from by rw [nodesMs]]
      split
      · rw [nodesM_eq a]; omega
      · rw [nodesMs, nodesMs]; omega
  · rw [nodesM_mk]; exact Nat.le_refl _
theorem nodesM_walk {g : Typ → Int → Typ} {C : Nat} (hC : 1 ≤ C) (hg : ∀ u (j : Nat), u.k ≠ 5 → u.k ≠ 6 → nodesM (g u (j : Int)) ≤ C * nodesM u) (t : Typ) : ∀ (k : Nat), nodesM (walkM g (k : Int) t) ≤ C * nodesM t := by
  refine Typ.ind (P := fun t => ∀ (k : Nat), nodesM (walkM g (k : Int) t) ≤ C * nodesM t) (fun t ih k => ?_) t
  have key : ∀ (j : Nat) (l : List Typ), (∀ u ∈ l, u ∈ t.l) → nodesMs (l.map (walkM g (j : Int))) ≤ C * nodesMs l := by
    intro j l
    induction l with
    | nil => intro _; rw [List.map_nil, nodesMs]; exact Nat.zero_le _
    | cons x l ihl =>
      intro h
      have h1 := ih x (h x (List.mem_cons_self ..)) j
      have h2 := ihl (fun u hu => h u (List.mem_cons_of_mem _ hu))
      rw [List.map_cons, nodesMs, nodesMs, Nat.mul_add]
      omega
  have fin : ∀ (j : Nat), nodesM (withM t (t.l.map (walkM g (j : Int)))) ≤ C * nodesM t := fun j => by
    have h1 := nodesM_with t (t.l.map (walkM g (j : Int)))
    have h2 := key j t.l (fun _ h => h)
    rw [nodesM_eq t, Nat.mul_add]
    omega
  rw [walkM_eq]
  split
  · exact fin (k + 1)
  · split
    · exact fin k
    · exact hg t k (by assumption) (by assumption)
theorem kidsMs_len : ∀ (l : List Typ), l.length ≤ nodesMs l
  | [] => Nat.zero_le _
  | p :: l => by
    have := kidsMs_len l
    rw [nodesMs, nodesM_eq, List.length_cons]
    omega
theorem kids_nodes (t : Typ) : t.l.length ≤ nodesM t := by
  have := kidsMs_len t.l
  rw [nodesM_eq]; omega
theorem shift_nodes (a b : Int) (t : Typ) (j : Nat) : nodesM (walkM (shiftF a b) (j : Int) t) ≤ nodesM t := by
  have h1 := nodesM_walk (g := shiftF a b) (C := 1) (Nat.le_refl _) (fun v i _ _ => by
    unfold shiftF
    split
    · rw [nodesM_mk, nodesM_eq v]; omega
    · omega) t j
  omega
theorem subst_nodes (i : Int) (s t : Typ) (j : Nat) : nodesM (walkM (substF i s) (j : Int) t) ≤ nodesM s * nodesM t := by
  refine nodesM_walk (nodesM_pos s) (fun v k _ _ => ?_) t j
  have hs := nodesM_pos s
  have hv : nodesM v ≤ nodesM s * nodesM v := Nat.le_mul_of_pos_left _ hs
  have hv1 := nodesM_pos v
  have hss : nodesM s ≤ nodesM s * nodesM v := Nat.le_mul_of_pos_right _ hv1
  unfold substF
  split
  · exact hv
  · split
    · exact Nat.le_trans (shift_nodes 0 k s 0) hss
    · rw [nodesM_mk]
      have := nodesM_eq v
      omega
end Go.Lamb
namespace Go.Proofs.YtpcmcfajfnpjeaaGreatDoor
open Go.RowKit Go.Lamb
attribute [local go_sem] advO_skip advO_reg advO_seq advO_block advO_exit advO_endb advO_opsNil advO_ops advG_yes advG_no advG_none advS_some advS_none advO_cond advO_loop advO_dreg advO_ret advO_bad advO_inv advO_nil advO_zero wantedV Lamb.step ev_t ev_k put_some put_none argEnv popTo cellsAt V.cellsV V.rows V.sub V.toC toCs fillV bytesC byteRows appV rowsV boundV boundL binV binInt binStr eqC eqL V.isNil leaves V.leaf Ins.quiet Ins.pure List.getD_cons_zero List.getD_cons_succ List.getD_nil List.all_cons List.all_nil List.length_cons List.length_nil List.take_succ_cons List.take_zero List.drop_succ_cons List.drop_zero List.cons_append List.nil_append List.append_nil List.append_assoc List.map_cons List.map_nil List.getElem?_cons_zero List.getElem?_cons_succ List.length_append List.length_set hget0 hget hset0 hset hsets hgs0 hgs hss0 hss List.set_cons_zero List.set_cons_succ List.forall_mem_cons List.not_mem_nil false_implies implies_true Option.map_some Bool.and_true Bool.true_and Bool.not_not Bool.not_true Bool.not_false Bool.and_self Bool.or_true Bool.true_or Bool.or_false Bool.false_or Bool.and_false Bool.false_and Bool.false_eq_true beq_self_eq_true and_self and_true true_and if_true if_false Nat.zero_add Nat.add_zero Nat.le_refl Int.toNat_natCast decide_true decide_false beq_t beq_f List.length_map List.getElem?_map I S B opsC toksC OpT.v OpT.cs OpT.zero Tok.v Tok.cs Pre.v Pre.cs_eq k_mk name_mk n_mk l_mk pos_mk Pre.app applyL natCast0 natCast1 natCast2 AOp.o AOp.m AOp.f AOp.l AOp.d AOp.n AOp.x AOp.s AOp.k AOp.y AOp.z EOp.q low_c low_void low_any low_csl low_nilf low_ptr low_osl low_agg low_tup low_fn resEval advPO_nil advPO_loud advPO_quiet pL_yes pL_no pLS_some pLS_none pQ_yes pQ_no pQS_some pQS_loud eq_self Nat.sub_zero
section
attribute [local go_sem] Typ.v Typ.cs_eq tk_mk tname_mk tn_mk tl_mk tysC

theorem validM_app (p : Typ) (h6 : p.k = 6) (h2 : 2 ≤ p.l.length) : validM p = (p.n == 0 && (p.l[0].k != 6) && p.name == [] && p.l.all validM) := by
  rw [validM_eq, nodeM, headM_at (by omega)]
  simp only [h6, Int.reduceEq, if_false, if_true, decide_eq_true h2, Bool.and_true]
theorem validM_few (p : Typ) (h6 : p.k = 6) (h2 : ¬ 2 ≤ p.l.length) : validM p = false := by
  rw [validM_eq, nodeM]; simp [h6, h2]
theorem ref07_Valid (w0 : World) (p : Typ) : ∀ (σ : H), DC Tryz.prog w0 15 [p.v] σ (Same (B (validM p)) σ) := by
  refine Typ.ind (P := fun p => ∀ (σ : H), DC Tryz.prog w0 15 [p.v] σ (Same (B (validM p)) σ)) (fun p ih σ => ?_) p
  refine k15.go rfl (fun hok hsz => ?_)
  have hlen := typ_len hsz (List.mem_cons_self ..)
  have l0 := len_ne (n := p.l.length) 0
  have l1 := len_ne (n := p.l.length) 1
  simp only [natCast0, natCast1] at l0 l1
  by_cases h6 : p.k = 6
  · have h6' : (p.k == 6) = true := by simpa using h6
    have kn : ∀ k : Int, k ≠ 6 → (p.k == k) = false := fun k hk => by rw [beq_eq_false_iff_ne]; omega
    have k0 := kn 0 (by decide)
    have k1 := kn 1 (by decide)
    have k2 := kn 2 (by decide)
    have k3 := kn 3 (by decide)
    have k4 := kn 4 (by decide)
    have k5 := kn 5 (by decide)
    clear h6 kn
    by_cases h2 : 2 ≤ p.l.length
    · have h2' : ((p.l.length : Int) ≥ 2) := by omega
      have h3 : ((0 : Nat) : Int) < (p.l.length : Int) := by omega
      have h3' : (0 : Int) < (p.l.length : Int) := by omega
      have hx : p.l[0]? = some p.l[0] := List.getElem?_eq_getElem (by omega)
      cases hn : (p.n == 0) <;> cases hk : (p.l[0].k == 6)
      all_goals
        (((try refine W.a ?_); (try simp only [bne, go_sem, seval, reduceCtorEq, c15, l0, l1, h6', h2', h3, h3', hx, nat0, hn, hk, *])); (repeat' (first | (refine W.yes rfl ?_; (refine W.a ?_; simp only [bne, go_sem, seval, reduceCtorEq, c15, l0, l1, h6', h2', h3, h3', hx, nat0, hn, hk, *])) | (refine W.no rfl ?_; (refine W.a ?_; simp only [bne, go_sem, seval, reduceCtorEq, c15, l0, l1, h6', h2', h3, h3', hx, nat0, hn, hk, *])) | (refine W.testn rfl (fun hT => ?_) (fun hT => ?_) <;> (refine W.a ?_; simp only [bne, go_sem, seval, reduceCtorEq, c15, l0, l1, h6', h2', h3, h3', hx, nat0, hn, hk, *])) | (refine W.test rfl (fun hT => ?_) (fun hT => ?_) <;> (refine W.a ?_; simp only [bne, go_sem, seval, reduceCtorEq, c15, l0, l1, h6', h2', h3, h3', hx, nat0, hn, hk, *])) | (refine advG_ifn _ _ _ _ (fun hT => ?_) (fun hT => ?_) <;> simp only [bne, go_sem, seval, reduceCtorEq, c15, l0, l1, h6', h2', h3, h3', hx, nat0, hn, hk, *]) | (refine advG_if _ _ _ _ (fun hT => ?_) (fun hT => ?_) <;> simp only [bne, go_sem, seval, reduceCtorEq, c15, l0, l1, h6', h2', h3, h3', hx, nat0, hn, hk, *]))))
        all_goals (try (first
          | (refine W.loopP (α := Nat × Bool) (fun x => x.1 ≤ p.l.length ∧ (x.2 && (p.l.drop x.1).all validM) = validM p) (fun x => ⟨(((base.put (some 1) (.ptr σ.length 0)).put (some 3) (B x.2)).put (some 7) (I (x.1 : Nat))), σ ++ [.cells p.v.cellsV]⟩) (fun x => p.l.length - x.1) (0, true) ⟨Nat.zero_le _, ?_⟩ ?_ (fun x hi => ?_)
             focus (simp only [validM_app p (by simpa using h6') h2, bne, Bool.not_true, Bool.not_false, hn, hk, List.drop_zero, Bool.false_and, Bool.true_and, Bool.and_false, Bool.and_true, *])
             focus ((refine Lew.env ?_; exact lee_here)))
          | (refine W.loopP (α := Nat × Bool) (fun x => x.1 ≤ p.l.length ∧ (x.2 && (p.l.drop x.1).all validM) = validM p) (fun x => ⟨(((base.put (some 1) (.ptr σ.length 0)).put (some 3) (B x.2)).put (some 7) (I (x.1 : Nat))), σ ++ [.cells p.v.cellsV]⟩) (fun x => p.l.length - x.1) (0, false) ⟨Nat.zero_le _, ?_⟩ ?_ (fun x hi => ?_)
             focus (simp only [validM_app p (by simpa using h6') h2, bne, Bool.not_true, Bool.not_false, hn, hk, List.drop_zero, Bool.false_and, Bool.true_and, Bool.and_false, Bool.and_true, *])
             focus ((refine Lew.env ?_; exact lee_here)))))
        all_goals (try (
          obtain ⟨i, b⟩ := x
          obtain ⟨hi, hinv⟩ := hi
          simp only at hi hinv
          by_cases hlt : i < p.l.length
          · have h1 : ((i : Int) < (p.l.length : Int)) := by omega
            have hx : p.l[i]? = some p.l[i] := List.getElem?_eq_getElem hlt
            have hw : IntKind.i64.wrap ((i : Int) + 1) = ((i + 1 : Nat) : Int) := wrap_next hlt hlen
            cases b
            · ((try refine W.a ?_); simp only [go_sem, seval, reduceCtorEq, h1])
              refine W.no rfl ?_
              ((try refine W.a ?_); simp only [go_sem, seval, reduceCtorEq])
              (refine W.fs (hok) (by simp only [r15, go_sem, seval, reduceCtorEq]; rfl) ?_; simp only [resV]; try exact V.wk.rfl _)
              rw [← hinv]
              exact .rfl _
            · ((try refine W.a ?_); simp only [go_sem, seval, reduceCtorEq, h1])
              refine W.yes rfl ?_
              ((try refine W.a ?_); simp only [go_sem, seval, reduceCtorEq, h1, nat0, hx])
              (refine W.c1 (ih p.l[i] (List.getElem_mem hlt) _) ?_; simp only [go_sem, seval, reduceCtorEq, hw])
              refine .inv ⟨(i + 1, validM p.l[i]), ⟨hlt, by rw [← hinv, List.drop_eq_getElem_cons hlt, List.all_cons, Bool.true_and]⟩, by simp only; omega, ?_⟩
              (refine Lew.env ?_; exact lee_here)
          · have h1 : ¬ ((i : Int) < (p.l.length : Int)) := by omega
            ((try refine W.a ?_); simp only [go_sem, seval, reduceCtorEq, h1])
            refine W.no rfl ?_
            ((try refine W.a ?_); simp only [go_sem, seval, reduceCtorEq])
            (refine W.fs (hok) (by simp only [r15, go_sem, seval, reduceCtorEq]; rfl) ?_; simp only [resV]; try exact V.wk.rfl _)
            rw [← hinv, List.drop_eq_nil_of_le (by omega), List.all_nil, Bool.and_true]
            exact .rfl _))
    · have h2' : ¬ ((p.l.length : Int) ≥ 2) := by omega
      cases hn : (p.n == 0)
      all_goals
        (((try refine W.a ?_); (try simp only [bne, go_sem, seval, reduceCtorEq, c15, l0, l1, h6', h2', hn, *])); (repeat' (first | (refine W.yes rfl ?_; (refine W.a ?_; simp only [bne, go_sem, seval, reduceCtorEq, c15, l0, l1, h6', h2', hn, *])) | (refine W.no rfl ?_; (refine W.a ?_; simp only [bne, go_sem, seval, reduceCtorEq, c15, l0, l1, h6', h2', hn, *])) | (refine W.testn rfl (fun hT => ?_) (fun hT => ?_) <;> (refine W.a ?_; simp only [bne, go_sem, seval, reduceCtorEq, c15, l0, l1, h6', h2', hn, *])) | (refine W.test rfl (fun hT => ?_) (fun hT => ?_) <;> (refine W.a ?_; simp only [bne, go_sem, seval, reduceCtorEq, c15, l0, l1, h6', h2', hn, *])) | (refine advG_ifn _ _ _ _ (fun hT => ?_) (fun hT => ?_) <;> simp only [bne, go_sem, seval, reduceCtorEq, c15, l0, l1, h6', h2', hn, *]) | (refine advG_if _ _ _ _ (fun hT => ?_) (fun hT => ?_) <;> simp only [bne, go_sem, seval, reduceCtorEq, c15, l0, l1, h6', h2', hn, *]))))
        all_goals (try (first
          | (refine W.loopP (α := Nat × Bool) (fun x => x.1 ≤ p.l.length ∧ (x.2 && (p.l.drop x.1).all validM) = validM p) (fun x => ⟨(((base.put (some 1) (.ptr σ.length 0)).put (some 3) (B x.2)).put (some 7) (I (x.1 : Nat))), σ ++ [.cells p.v.cellsV]⟩) (fun x => p.l.length - x.1) (0, true) ⟨Nat.zero_le _, ?_⟩ ?_ (fun x hi => ?_)
             focus (simp only [validM_few p (by simpa using h6') h2, List.drop_zero, Bool.false_and])
             focus ((refine Lew.env ?_; exact lee_here)))
          | (refine W.loopP (α := Nat × Bool) (fun x => x.1 ≤ p.l.length ∧ (x.2 && (p.l.drop x.1).all validM) = validM p) (fun x => ⟨(((base.put (some 1) (.ptr σ.length 0)).put (some 3) (B x.2)).put (some 7) (I (x.1 : Nat))), σ ++ [.cells p.v.cellsV]⟩) (fun x => p.l.length - x.1) (0, false) ⟨Nat.zero_le _, ?_⟩ ?_ (fun x hi => ?_)
             focus (simp only [validM_few p (by simpa using h6') h2, List.drop_zero, Bool.false_and])
             focus ((refine Lew.env ?_; exact lee_here)))))
        all_goals (try (
          obtain ⟨i, b⟩ := x
          obtain ⟨hi, hinv⟩ := hi
          simp only at hi hinv
          by_cases hlt : i < p.l.length
          · have h1 : ((i : Int) < (p.l.length : Int)) := by omega
            have hx : p.l[i]? = some p.l[i] := List.getElem?_eq_getElem hlt
            have hw : IntKind.i64.wrap ((i : Int) + 1) = ((i + 1 : Nat) : Int) := wrap_next hlt hlen
            cases b
            · ((try refine W.a ?_); simp only [go_sem, seval, reduceCtorEq, h1])
              refine W.no rfl ?_
              ((try refine W.a ?_); simp only [go_sem, seval, reduceCtorEq])
              (refine W.fs (hok) (by simp only [r15, go_sem, seval, reduceCtorEq]; rfl) ?_; simp only [resV]; try exact V.wk.rfl _)
              rw [← hinv]
              exact .rfl _
            · ((try refine W.a ?_); simp only [go_sem, seval, reduceCtorEq, h1])
              refine W.yes rfl ?_
              ((try refine W.a ?_); simp only [go_sem, seval, reduceCtorEq, h1, nat0, hx])
              (refine W.c1 (ih p.l[i] (List.getElem_mem hlt) _) ?_; simp only [go_sem, seval, reduceCtorEq, hw])
              refine .inv ⟨(i + 1, validM p.l[i]), ⟨hlt, by rw [← hinv, List.drop_eq_getElem_cons hlt, List.all_cons, Bool.true_and]⟩, by simp only; omega, ?_⟩
              (refine Lew.env ?_; exact lee_here)
          · have h1 : ¬ ((i : Int) < (p.l.length : Int)) := by omega
            ((try refine W.a ?_); simp only [go_sem, seval, reduceCtorEq, h1])
            refine W.no rfl ?_
            ((try refine W.a ?_); simp only [go_sem, seval, reduceCtorEq])
            (refine W.fs (hok) (by simp only [r15, go_sem, seval, reduceCtorEq]; rfl) ?_; simp only [resV]; try exact V.wk.rfl _)
            rw [← hinv, List.drop_eq_nil_of_le (by omega), List.all_nil, Bool.and_true]
            exact .rfl _))
  · have h6' : (p.k == 6) = false := by simpa using h6
    (((try refine W.a ?_); (try simp only [bne, go_sem, seval, reduceCtorEq, c15, l0, l1, h6', *])); (repeat' (first | (refine W.yes rfl ?_; (refine W.a ?_; simp only [bne, go_sem, seval, reduceCtorEq, c15, l0, l1, h6', *])) | (refine W.no rfl ?_; (refine W.a ?_; simp only [bne, go_sem, seval, reduceCtorEq, c15, l0, l1, h6', *])) | (refine W.c1 (ref01_IsNameD w0 p.name _) ?_; simp only [bne, go_sem, seval, reduceCtorEq, c15, l0, l1, h6', *]) | (refine W.c1 (ref01_IsSymD w0 p.name _) ?_; simp only [bne, go_sem, seval, reduceCtorEq, c15, l0, l1, h6', *]) | (refine W.testn rfl (fun hT => ?_) (fun hT => ?_) <;> (refine W.a ?_; simp only [bne, go_sem, seval, reduceCtorEq, c15, l0, l1, h6', *])) | (refine W.test rfl (fun hT => ?_) (fun hT => ?_) <;> (refine W.a ?_; simp only [bne, go_sem, seval, reduceCtorEq, c15, l0, l1, h6', *])) | (refine advG_ifn _ _ _ _ (fun hT => ?_) (fun hT => ?_) <;> simp only [bne, go_sem, seval, reduceCtorEq, c15, l0, l1, h6', *]) | (refine advG_if _ _ _ _ (fun hT => ?_) (fun hT => ?_) <;> simp only [bne, go_sem, seval, reduceCtorEq, c15, l0, l1, h6', *]))))
    all_goals (try (first
      | (refine W.loopP (α := Nat × Bool) (fun x => x.1 ≤ p.l.length ∧ (x.2 && (p.l.drop x.1).all validM) = validM p) (fun x => ⟨(((base.put (some 1) (.ptr σ.length 0)).put (some 3) (B x.2)).put (some 7) (I (x.1 : Nat))), σ ++ [.cells p.v.cellsV]⟩) (fun x => p.l.length - x.1) (0, true) ⟨Nat.zero_le _, ?_⟩ ?_ (fun x hi => ?_)
         focus (clear hok hsz; simp only [beq_iff_eq, beq_eq_false_iff_ne, ne_eq, decide_eq_true_eq, decide_eq_false_iff_not] at *; simp [validM_eq p, nodeM, *])
         focus ((refine Lew.env ?_; exact lee_here)))
      | (refine W.loopP (α := Nat × Bool) (fun x => x.1 ≤ p.l.length ∧ (x.2 && (p.l.drop x.1).all validM) = validM p) (fun x => ⟨(((base.put (some 1) (.ptr σ.length 0)).put (some 3) (B x.2)).put (some 7) (I (x.1 : Nat))), σ ++ [.cells p.v.cellsV]⟩) (fun x => p.l.length - x.1) (0, false) ⟨Nat.zero_le _, ?_⟩ ?_ (fun x hi => ?_)
         focus (clear hok hsz; simp only [beq_iff_eq, beq_eq_false_iff_ne, ne_eq, decide_eq_true_eq, decide_eq_false_iff_not] at *; simp [validM_eq p, nodeM, *])
         focus ((refine Lew.env ?_; exact lee_here)))
      | (refine W.loopP (α := Nat × Bool) (fun x => x.1 ≤ p.l.length ∧ (x.2 && (p.l.drop x.1).all validM) = validM p) (fun x => ⟨(((base.put (some 1) (.ptr σ.length 0)).put (some 3) (B x.2)).put (some 7) (I (x.1 : Nat))), σ ++ [.cells p.v.cellsV]⟩) (fun x => p.l.length - x.1) (0, (p.l.length == 0)) ⟨Nat.zero_le _, ?_⟩ ?_ (fun x hi => ?_)
         focus (clear hok hsz; simp only [beq_iff_eq, beq_eq_false_iff_ne, ne_eq, decide_eq_true_eq, decide_eq_false_iff_not] at *; simp [validM_eq p, nodeM, *])
         focus ((refine Lew.env ?_; exact lee_here)))
      | (refine W.loopP (α := Nat × Bool) (fun x => x.1 ≤ p.l.length ∧ (x.2 && (p.l.drop x.1).all validM) = validM p) (fun x => ⟨(((base.put (some 1) (.ptr σ.length 0)).put (some 3) (B x.2)).put (some 7) (I (x.1 : Nat))), σ ++ [.cells p.v.cellsV]⟩) (fun x => p.l.length - x.1) (0, (p.l.length == 1)) ⟨Nat.zero_le _, ?_⟩ ?_ (fun x hi => ?_)
         focus (clear hok hsz; simp only [beq_iff_eq, beq_eq_false_iff_ne, ne_eq, decide_eq_true_eq, decide_eq_false_iff_not] at *; simp [validM_eq p, nodeM, *])
         focus ((refine Lew.env ?_; exact lee_here)))))
    all_goals (try (refine W.fs (hok) (by simp only [r15, go_sem, seval, reduceCtorEq]; rfl) ?_; simp only [resV]; (first | exact V.wk.rfl _ | (refine wk_bool ?_; clear hsz hok; rw [validM_eq] <;> ((try simp only [beq_iff_eq, beq_eq_false_iff_ne, ne_eq, decide_eq_true_eq, decide_eq_false_iff_not] at *); first | (exfalso; omega) | (simp [nodeM, *]; done) | (simp [nodeM, *]; omega) | (simp [nodeM, *]))))))
    rotate_left 2
    all_goals (try (
      obtain ⟨i, b⟩ := x
      obtain ⟨hi, hinv⟩ := hi
      simp only at hi hinv
      by_cases hlt : i < p.l.length
      · have h1 : ((i : Int) < (p.l.length : Int)) := by omega
        have hx : p.l[i]? = some p.l[i] := List.getElem?_eq_getElem hlt
        have hw : IntKind.i64.wrap ((i : Int) + 1) = ((i + 1 : Nat) : Int) := wrap_next hlt hlen
        cases b
        · ((try refine W.a ?_); simp only [go_sem, seval, reduceCtorEq, h1])
          refine W.no rfl ?_
          ((try refine W.a ?_); simp only [go_sem, seval, reduceCtorEq])
          (refine W.fs (hok) (by simp only [r15, go_sem, seval, reduceCtorEq]; rfl) ?_; simp only [resV]; try exact V.wk.rfl _)
          rw [← hinv]
          exact .rfl _
        · ((try refine W.a ?_); simp only [go_sem, seval, reduceCtorEq, h1])
          refine W.yes rfl ?_
          ((try refine W.a ?_); simp only [go_sem, seval, reduceCtorEq, h1, nat0, hx])
          (refine W.c1 (ih p.l[i] (List.getElem_mem hlt) _) ?_; simp only [go_sem, seval, reduceCtorEq, hw])
          refine .inv ⟨(i + 1, validM p.l[i]), ⟨hlt, by rw [← hinv, List.drop_eq_getElem_cons hlt, List.all_cons, Bool.true_and]⟩, by simp only; omega, ?_⟩
          (refine Lew.env ?_; exact lee_here)
      · have h1 : ¬ ((i : Int) < (p.l.length : Int)) := by omega
        ((try refine W.a ?_); simp only [go_sem, seval, reduceCtorEq, h1])
        refine W.no rfl ?_
        ((try refine W.a ?_); simp only [go_sem, seval, reduceCtorEq])
        (refine W.fs (hok) (by simp only [r15, go_sem, seval, reduceCtorEq]; rfl) ?_; simp only [resV]; try exact V.wk.rfl _)
        rw [← hinv, List.drop_eq_nil_of_le (by omega), List.all_nil, Bool.and_true]
        exact .rfl _))
    all_goals
      intro h x hx
      rw [h] at hx
      simp at hx
end
section
attribute [local go_sem] Pre.v Pre.cs_eq Pre.app

theorem ref14_in (w0 : World) (l : List Str) (s : Str) (σ : H) : DC Tryz.prog w0 74 [.c (.sl (strsR l)), S s] σ (Same (B (l.contains s)) σ) := by
  refine k74.go rfl (fun hok hsz => ?_)
  have hlen := sz_row_len hsz (List.mem_cons_self ..) rfl
  ((try refine W.a ?_); simp only [go_sem, seval, reduceCtorEq, c74, strsR])
  refine W.loopP (fun i => i ≤ l.length ∧ UpTo (· == s) l i) (fun i => ⟨(((base.put (some 0) (.c (.sl (strsR l)))).put (some 1) (S s)).put (some 5) (I (i : Nat))), σ⟩) (fun i => l.length - i) 0 ⟨Nat.zero_le _, upTo_zero⟩ ?_ (fun i hi => ?_)
  · (refine Lew.env ?_; exact lee_here)
  · obtain ⟨hi, hinv⟩ := hi
    by_cases hlt : i < l.length
    · have h1 : ((i : Int) < (l.length : Int)) := by omega
      have hx : l[i]? = some l[i] := List.getElem?_eq_getElem hlt
      have hw := wrap_next hlt hlen
      ((try refine W.a ?_); simp only [go_sem, seval, reduceCtorEq, h1, strsR])
      refine W.yes rfl ?_
      ((try refine W.a ?_); simp only [go_sem, seval, reduceCtorEq, h1, nat0, hx, strsR])
      refine W.test rfl (fun h => ?_) (fun h => ?_)
      · ((try refine W.a ?_); simp only [go_sem, seval, reduceCtorEq])
        (refine W.fs (hok) (by simp only [r74, go_sem, seval, reduceCtorEq]; rfl) ?_; simp only [resV]; try exact V.wk.rfl _)
        have : l.contains s = true := by
          rw [List.contains_iff_mem]
          have e : l[i] = s := by simpa using h
          rw [← e]; exact List.getElem_mem hlt
        rw [this]
        exact .rfl _
      · ((try refine W.a ?_); simp only [go_sem, seval, reduceCtorEq, hw])
        refine .inv ⟨i + 1, ⟨hlt, upTo_next hinv hlt h⟩, by omega, ?_⟩
        (refine Lew.env ?_; exact lee_here)
    · have h1 : ¬ ((i : Int) < (l.length : Int)) := by omega
      ((try refine W.a ?_); simp only [go_sem, seval, reduceCtorEq, h1, strsR])
      refine W.no rfl ?_
      ((try refine W.a ?_); simp only [go_sem, seval, reduceCtorEq])
      (refine W.fs (hok) (by simp only [r74, go_sem, seval, reduceCtorEq]; rfl) ?_; simp only [resV]; try exact V.wk.rfl _)
      have : l.contains s = false := by
        cases hc : l.contains s
        · rfl
        · rw [List.contains_iff_mem] at hc
          obtain ⟨j, hj, e⟩ := List.getElem_of_mem hc
          have := hinv j hj (by omega)
          simp only [e, beq_self_eq_true] at this
          cases this
      rw [this]
      exact .rfl _
theorem ref14_app (w0 : World) (f x : Pre) (σ : H) : DC Tryz.prog w0 61 [f.v, x.v] σ (Same (Pre.app f x 0).v σ) := by
  refine k61.go rfl (fun hok hsz => ?_)
  ((try refine W.a ?_); simp only [go_sem, seval, reduceCtorEq, c61])
  (refine W.fs (hok) (by simp only [r61, go_sem, seval, reduceCtorEq]; rfl) ?_; simp only [resV]; try exact V.wk.rfl _)
  (all_goals exact wk_here)
theorem pretty_word (w0 : World) (s : Str) (σ : H) : DC Tryz.prog w0 145 [S s] σ (Same (Pre.mk 0 s 0 [] 0).v σ) := by
  refine k145.go rfl (fun hok hsz => ?_)
  ((try refine W.a ?_); simp only [go_sem, seval, reduceCtorEq, c145])
  (refine W.fs (hok) (by simp only [r145, go_sem, seval, reduceCtorEq]; rfl) ?_; simp only [resV]; try exact V.wk.rfl _)
  (all_goals exact wk_here)
theorem pretty_apply1 (w0 : World) (f x : Pre) (σ : H) : DC Tryz.prog w0 144 [f.v, .c (.sl ([x].map Pre.cs))] σ (Same (Pre.app f x 0).v σ) := by
  refine k144.go rfl (fun hok hsz => ?_)
  ((try refine W.a ?_); simp only [go_sem, seval, reduceCtorEq, c144])
  refine W.loopP (fun i => i ≤ 1) (fun i => ⟨(((((base.put (some 2) (.ptr σ.length 0)).put (some 4) (.ptr (σ.length + 1) 0)).put (some 7) (.c (.sl [[.int .i64 x.k, .str x.name, .int .i64 x.n, .sl (x.l.map Pre.cs), .int .i64 x.pos]]))).put (some 8) (I 1)).put (some 9) (I (i : Nat))), σ ++ [.cells (if i = 0 then f.v.cellsV else [I 3, S [], I 0, .csl [[.int .i64 f.k, .str f.name, .int .i64 f.n, .sl (f.l.map Pre.cs), .int .i64 f.pos], [.int .i64 x.k, .str x.name, .int .i64 x.n, .sl (x.l.map Pre.cs), .int .i64 x.pos]], I 0]), .cells [I 0, S [], I 0, .csl [], I 0]]⟩) (fun i => 1 - i) 0 (Nat.zero_le _) ?_ (fun i hi => ?_)
  · (refine Lew.env ?_; exact lee_here)
  · rcases Nat.lt_or_ge i 1 with h | h
    · obtain rfl : i = 0 := by omega
      ((try refine W.a ?_); simp only [go_sem, seval, reduceCtorEq])
      refine W.yes rfl ?_
      ((try refine W.a ?_); simp only [go_sem, seval, reduceCtorEq])
      refine .inv ⟨1, Nat.le_refl _, by omega, ?_⟩
      simp only [Nat.one_ne_zero, if_false]
      (refine Lew.cutL (hok) ?_ (by simp) (by simp) ?_ ?_ ?_; exact lee_here; ((try simp only [okB, wkB, go_sem, seval, reduceCtorEq]) <;> omega); (simp only [List.length_cons, List.length_nil, Nat.reduceAdd, List.take_succ_cons, List.take_zero, wkB, and_true]; (repeat' (refine And.intro ?_ ?_)) <;> (first | exact Blk.wk.rfl _ | exact Blk.wk.gone _ | (refine Blk.wk_cells ?_ rfl; (exact wk_here)))); (repeat' (first | exact LowE.base _ | (refine LowE.put ?_ (by first | exact .c _ | ((try simp only [okB, wkB, go_sem, seval, reduceCtorEq]) <;> omega))))))
    · obtain rfl : i = 1 := by omega
      ((try refine W.a ?_); simp only [go_sem, seval, reduceCtorEq])
      refine W.no rfl ?_
      ((try refine W.a ?_); simp only [go_sem, seval, reduceCtorEq])
      (refine W.fs (hok) (by simp only [r144, go_sem, seval, reduceCtorEq]; rfl) ?_; simp only [resV]; try exact V.wk.rfl _)
      (all_goals exact wk_here)
end
section
attribute [local go_sem] Pre.v Pre.cs_eq Pre.app

theorem pretty_number (w0 : World) (n : Int) (σ : H) : DC Tryz.prog w0 146 [I n] σ (Same (numP n).v σ) := by
  refine k146.go rfl (fun hok hsz => ?_)
  by_cases h : n ≥ 0
  · have hE : numP n = .mk 2 [] n [] 0 := if_pos h
    rw [hE]
    ((try refine W.a ?_); simp only [go_sem, seval, reduceCtorEq, c146, h])
    refine W.yes rfl ?_
    ((try refine W.a ?_); simp only [go_sem, seval, reduceCtorEq])
    (refine W.fs (hok) (by simp only [r146, go_sem, seval, reduceCtorEq]; rfl) ?_; simp only [resV]; try exact V.wk.rfl _)
    (all_goals exact wk_here)
  · have hE : numP n = .app (.mk 0 [126] 0 [] 0) (.mk 2 [] (-(if -9223372036854775807 > n then -9223372036854775807 else n)) [] 0) 0 := if_neg h
    have hw : IntKind.i64.wrap (0 - if -9223372036854775807 > n then -9223372036854775807 else n) = -(if -9223372036854775807 > n then -9223372036854775807 else n) := by split <;> (rw [wrap_in] <;> omega)
    rw [hE]
    ((try refine W.a ?_); simp only [go_sem, seval, reduceCtorEq, c146, h])
    refine W.no rfl ?_
    ((try refine W.a ?_); simp only [go_sem, seval, reduceCtorEq])
    (refine W.c1 (pretty_word w0 [126] _) ?_; simp only [go_sem, seval, reduceCtorEq, hw])
    (refine W.c1w (pretty_apply1 w0 (.mk 0 [126] 0 [] 0) (.mk 2 [] (-(if -9223372036854775807 > n then -9223372036854775807 else n)) [] 0) _) ?_; simp only [go_sem, seval, reduceCtorEq])
    (refine W.fs (hok) (by simp only [r146, go_sem, seval, reduceCtorEq]; rfl) ?_; simp only [resV]; try exact V.wk.rfl _)
    (all_goals exact wk_here)
end
section
def c62 : AC := .seq (.reg [.o 2 (.mov (.k (.c (.str []))))]) (.seq (.reg [.o 3 (.mov (.k (.c (.str []))))]) (.seq (.block 0 (.loop (.seq (.seq (.reg [.m 4 0, .o 5 (.bin .gtr (.t 4) (.k (.c (.int .i64 0)))), .m 6 5, .z 7 (.mov (.t 3)) 6, .z 8 (.bin .eql (.t 7) (.k (.c (.str [])))) 6, .o 9 (.pick (.t 6) (.k (.c (.bool true))) (.t 8))]) (.cond (.t 9) (.skip) (.exit 0))) (.block 1 (.seq (.reg [.m 10 0, .o 11 (.bin .rem (.t 10) (.k (.c (.int .i64 10)))), .o 12 (.bin .add (.k (.c (.int .i64 48))) (.t 11)), .o 13 (.conv .u8 (.t 12)), .o 14 (.bsl 1 [(.t 13)]), .o 15 (.b2s (.t 14)), .m 16 3, .o 17 (.bin .add (.t 15) (.t 16)), .m 3 17]) (.reg [.m 18 0, .o 19 (.bin .quo (.t 18) (.k (.c (.int .i64 10)))), .m 0 19])))))) (.seq (.reg [.m 20 3, .m 2 20]) (.ret))))
def r62 : List ResV := [.tmp 2]
theorem k62 : CodeIs Tryz.prog 62 1 Tryz.f62 c62 r62 := .auto Tryz.func62
end
section
theorem ref01_Digits (w0 : World) (N : Nat) (hN : N ≤ 9223372036854775807) (σ : H) : DC Tryz.prog w0 62 [I (N : Int)] σ (Same (S (Lib.decDigits N)) σ) := by
  refine k62.go rfl (fun hok hsz => ?_)
  ((try refine W.a ?_); simp only [go_sem, seval, reduceCtorEq, c62])
  refine W.loopP (DgInv N) (fun x => ⟨(((base.put (some 0) (I (x.1 : Nat))).put (some 2) (S [])).put (some 3) (S x.2)), σ⟩) (fun x => x.1 + (if x.2 = [] then 1 else 0)) (N, []) ⟨Nat.le_refl _, .inl ⟨rfl, rfl⟩⟩ ?_ (fun x hx => ?_)
  · (refine Lew.env ?_; exact lee_here)
  obtain ⟨m, s⟩ := x
  have hm : m ≤ N := hx.1
  have hlen := dg_len hN hx
  have e1 : ((m : Int).tmod 10) = ((m % 10 : Nat) : Int) := by rw [Int.tmod_eq_emod_of_nonneg (by omega)]; omega
  have e2 : ((m : Int).tdiv 10) = ((m / 10 : Nat) : Int) := by rw [Int.tdiv_eq_ediv_of_nonneg (by omega)]; omega
  have w1 : IntKind.i64.wrap (48 + ((m % 10 : Nat) : Int)) = ((48 + m % 10 : Nat) : Int) := by rw [wrap_in] <;> omega
  have w2 : IntKind.u8.wrap ((48 + m % 10 : Nat) : Int) = ((48 + m % 10 : Nat) : Int) := by
    unfold IntKind.wrap IntKind.bits IntKind.signed
    simp
    omega
  have w3 : IntKind.i64.wrap ((m / 10 : Nat) : Int) = ((m / 10 : Nat) : Int) := by rw [wrap_in] <;> omega
  have w4 : IntKind.i64.wrap ((m % 10 : Nat) : Int) = ((m % 10 : Nat) : Int) := by rw [wrap_in] <;> omega
  have hl1 : 1 + s.length ≤ 9223372036854775807 := by omega
  by_cases h0 : 0 < m
  · have h1 : (m : Int) > 0 := by omega
    ((try refine W.a ?_); simp only [go_sem, seval, reduceCtorEq, h1])
    refine W.yes rfl ?_
    ((try refine W.a ?_); simp only [go_sem, seval, reduceCtorEq, e1, e2, w1, w2, w3, w4, hl1, Int.toNat_natCast])
    refine .inv ⟨(m / 10, UInt8.ofNat (48 + m % 10) :: s), dg_next hx (.inl h0), ?_, ?_⟩
    · show _ + _ < _ + _
      rw [if_neg (by simp)]
      have : m / 10 < m := by omega
      omega
    (refine Lew.env ?_; exact lee_here)
  have h1 : ¬ ((m : Int) > 0) := by omega
  by_cases hs : s = []
  · have hb : (s == []) = true := by rw [hs]; rfl
    ((try refine W.a ?_); simp only [go_sem, seval, reduceCtorEq, h1, hb])
    refine W.yes rfl ?_
    ((try refine W.a ?_); simp only [go_sem, seval, reduceCtorEq, e1, e2, w1, w2, w3, w4, hl1, Int.toNat_natCast])
    refine .inv ⟨(m / 10, UInt8.ofNat (48 + m % 10) :: s), dg_next hx (.inr hs), ?_, ?_⟩
    · show _ + _ < _ + _
      rw [if_neg (by simp), if_pos hs]
      omega
    (refine Lew.env ?_; exact lee_here)
  have hb : (s == []) = false := by simpa using hs
  ((try refine W.a ?_); simp only [go_sem, seval, reduceCtorEq, h1, hb])
  refine W.no rfl ?_
  have hfin : s = Lib.decDigits N := by
    obtain ⟨_, h⟩ := hx
    rcases h with ⟨h2, _⟩ | ⟨_, h2, _⟩
    · exact absurd h2 hs
    · exact h2 (by show m = 0; omega)
  rw [hfin]
  ((try refine W.a ?_); simp only [go_sem, seval, reduceCtorEq])
  (refine W.fs (hok) (by simp only [r62, go_sem, seval, reduceCtorEq]; rfl) ?_; simp only [resV]; try exact V.wk.rfl _)
end
section
attribute [local go_sem] Sg.v findV foundV Typ.v OpT.v nmX

theorem ref14_Name (w0 : World) (s : Sg) (vars : List Str) (i n : Nat) (hn : n ≤ 1000000) (h : NameAt (tkX s vars) i n) (hi : i ≤ 1000000) (σ : H) : DC Tryz.prog w0 22 [s.v, .c (.sl (strsR vars)), I (i : Int)] σ (Same (S (nmX (n + 1))) σ) := by
  refine k22.go rfl (fun hok hsz => ?_)
  ((try refine W.a ?_); simp only [go_sem, seval, reduceCtorEq, c22])
  refine W.loopP (α := Nat × Nat) (fun x => x.1 ≤ n ∧ cntN (tkX s vars) x.1 + x.2 = i) (fun x => ⟨((((base.put (some 1) (.c (.sl (strsR vars)))).put (some 2) (I (x.2 : Nat))).put (some 3) (.ptr σ.length 0)).put (some 7) (I (x.1 : Nat))), σ ++ [.cells s.v.cellsV]⟩) (fun x => n - x.1) (0, i) ⟨Nat.zero_le _, by simp [cntN]⟩ ?_ (fun x hx => ?_)
  · (refine Lew.env ?_; exact lee_here)
  · obtain ⟨m, k⟩ := x
    obtain ⟨hm, hk⟩ := hx
    simp only at hm hk
    have hw : IntKind.i64.wrap ((m : Int) + 1) = ((m + 1 : Nat) : Int) := by rw [wrap_in] <;> omega
    have hl : 1 + (Lib.decDigits (m + 1)).length ≤ 9223372036854775807 := by have := dec_len (u := m + 1) (by omega); omega
    have hT : tkX s vars (m + 1) = ((findN s.types (120 :: Lib.decDigits (m + 1))).isSome || (findL s.ops (120 :: Lib.decDigits (m + 1))).isSome || vars.contains (120 :: Lib.decDigits (m + 1))) := rfl
    have htk : tkX s vars (m + 1) = true → m + 1 ≤ n ∧ cntN (tkX s vars) (m + 1) + k = i := fun e => by
      have : m ≠ n := fun e' => by subst e'; rw [h.1] at e; cases e
      refine ⟨by omega, ?_⟩
      rw [cntN, if_pos e]
      exact hk
    have hfr : tkX s vars (m + 1) = false → k ≠ 0 → m + 1 ≤ n ∧ cntN (tkX s vars) (m + 1) + (k - 1) = i := fun e hk0 => by
      have : m ≠ n := fun e' => by
        subst e'
        have := h.2
        omega
      refine ⟨by omega, ?_⟩
      rw [cntN, if_neg (by rw [e]; simp)]
      omega
    have hfn : tkX s vars (m + 1) = false → k = 0 → m = n := fun e hk0 => nameAt_one (tk := tkX s vars) (i := i) ⟨e, by omega⟩ h
    cases hA : (findN s.types (120 :: Lib.decDigits (m + 1))).isSome <;> cases hB : (findL s.ops (120 :: Lib.decDigits (m + 1))).isSome
    all_goals
      rw [hA, hB] at hT
      ((try refine W.a ?_); simp only [go_sem, seval, reduceCtorEq, hw])
      (refine W.c1 (ref01_Digits w0 (m + 1) (by omega) _) ?_; simp only [go_sem, seval, reduceCtorEq, hl])
      (refine W.c1 (ref11_Find w0 s (120 :: Lib.decDigits (m + 1)) _) ?_; simp only [go_sem, seval, reduceCtorEq])
      ((try refine W.a ?_); simp only [go_sem, seval, reduceCtorEq, hA])
      (refine W.c1 (ref02_Find w0 s.ops (120 :: Lib.decDigits (m + 1)) _) ?_; simp only [go_sem, seval, reduceCtorEq])
      ((try refine W.a ?_); simp only [go_sem, seval, reduceCtorEq, hA, hB])
    · (refine W.c1 (ref14_in w0 vars (120 :: Lib.decDigits (m + 1)) _) ?_; simp only [go_sem, seval, reduceCtorEq])
      refine W.test rfl (fun hC => ?_) (fun hC => ?_)
      · rw [hC] at hT
        obtain ⟨a, b⟩ := htk hT
        ((try refine W.a ?_); simp only [go_sem, seval, reduceCtorEq])
        refine .inv ⟨(m + 1, k), ⟨a, b⟩, by simp only; omega, ?_⟩
        (refine Lew.cutL (hok) ?_ (by simp) (by simp) ?_ ?_ ?_; exact lee_here; ((try simp only [okB, wkB, go_sem, seval, reduceCtorEq]) <;> omega); (simp only [List.length_cons, List.length_nil, Nat.reduceAdd, List.take_succ_cons, List.take_zero, wkB, and_true]; (repeat' (refine And.intro ?_ ?_)) <;> (first | exact Blk.wk.rfl _ | exact Blk.wk.gone _ | (refine Blk.wk_cells ?_ rfl; (exact wk_here)))); (repeat' (first | exact LowE.base _ | (refine LowE.put ?_ (by first | exact .c _ | ((try simp only [okB, wkB, go_sem, seval, reduceCtorEq]) <;> omega))))))
      · rw [hC] at hT
        by_cases hk0 : k = 0
        · have e := hfn hT hk0
          subst hk0
          subst e
          ((try refine W.a ?_); simp only [go_sem, seval, reduceCtorEq])
          refine W.yes rfl ?_
          ((try refine W.a ?_); simp only [go_sem, seval, reduceCtorEq])
          (refine W.fs (hok) (by simp only [r22, go_sem, seval, reduceCtorEq]; rfl) ?_; simp only [resV]; try exact V.wk.rfl _)
        · have hk1 : ((k : Int) == 0) = false := by rw [beq_eq_false_iff_ne]; omega
          have hw2 : IntKind.i64.wrap ((k : Int) - 1) = ((k - 1 : Nat) : Int) := by rw [wrap_in] <;> omega
          obtain ⟨a, b⟩ := hfr hT hk0
          ((try refine W.a ?_); simp only [go_sem, seval, reduceCtorEq, hk1])
          refine W.no rfl ?_
          ((try refine W.a ?_); simp only [go_sem, seval, reduceCtorEq, hw2])
          refine .inv ⟨(m + 1, k - 1), ⟨a, b⟩, by simp only; omega, ?_⟩
          (refine Lew.cutL (hok) ?_ (by simp) (by simp) ?_ ?_ ?_; exact lee_here; ((try simp only [okB, wkB, go_sem, seval, reduceCtorEq]) <;> omega); (simp only [List.length_cons, List.length_nil, Nat.reduceAdd, List.take_succ_cons, List.take_zero, wkB, and_true]; (repeat' (refine And.intro ?_ ?_)) <;> (first | exact Blk.wk.rfl _ | exact Blk.wk.gone _ | (refine Blk.wk_cells ?_ rfl; (exact wk_here)))); (repeat' (first | exact LowE.base _ | (refine LowE.put ?_ (by first | exact .c _ | ((try simp only [okB, wkB, go_sem, seval, reduceCtorEq]) <;> omega))))))
    all_goals
      obtain ⟨a, b⟩ := htk (by rw [hT]; simp)
      ((try refine W.a ?_); simp only [go_sem, seval, reduceCtorEq])
      refine W.yes rfl ?_
      ((try refine W.a ?_); simp only [go_sem, seval, reduceCtorEq])
      refine .inv ⟨(m + 1, k), ⟨a, b⟩, by simp only; omega, ?_⟩
      (refine Lew.cutL (hok) ?_ (by simp) (by simp) ?_ ?_ ?_; exact lee_here; ((try simp only [okB, wkB, go_sem, seval, reduceCtorEq]) <;> omega); (simp only [List.length_cons, List.length_nil, Nat.reduceAdd, List.take_succ_cons, List.take_zero, wkB, and_true]; (repeat' (refine And.intro ?_ ?_)) <;> (first | exact Blk.wk.rfl _ | exact Blk.wk.gone _ | (refine Blk.wk_cells ?_ rfl; (exact wk_here)))); (repeat' (first | exact LowE.base _ | (refine LowE.put ?_ (by first | exact .c _ | ((try simp only [okB, wkB, go_sem, seval, reduceCtorEq]) <;> omega))))))
end
section
attribute [local go_sem] Sg.v Typ.v Typ.cs_eq Pre.v Pre.cs_eq Pre.app tk_mk tname_mk tn_mk tl_mk

theorem leaf_int {s : Sg} {vars : List Str} {k : Nat} {t : Typ} (h : (t.k == 2) = true) : treeM s vars k t = numP t.n := by
  have h : t.k = 2 := by simpa using h
  rw [treeM_eq, if_neg (by omega), if_neg (by omega), leafP, if_pos h]
theorem ref14_TreeInt (w0 : World) (s : Sg) (t : Typ) (vars : List Str) (k : Nat) (h : (t.k == 2) = true) (hn : inI t.n) (σ : H) : DC Tryz.prog w0 16 [s.v, t.v, .c (.sl (strsR vars)), I (k : Int)] σ (Same (treeM s vars k t).v σ) := by
  refine k16.go rfl (fun hok hsz => ?_)
  rw [leaf_int h]
  have hi : inI t.n := hn
  unfold inI at hi
  by_cases h0 : t.n ≥ 0
  · rw [show numP t.n = .mk 2 [] t.n [] 0 from if_pos h0]
    ((try refine W.a ?_); simp only [go_sem, seval, reduceCtorEq, c16, h])
    refine W.yes rfl ?_
    ((try refine W.a ?_); simp only [go_sem, seval, reduceCtorEq, h0])
    refine W.yes rfl ?_
    ((try refine W.a ?_); simp only [go_sem, seval, reduceCtorEq])
    (refine W.fs (hok) (by simp only [r16, go_sem, seval, reduceCtorEq]; rfl) ?_; simp only [resV]; try exact V.wk.rfl _)
    (all_goals exact wk_here)
  · rw [show numP t.n = .app (.mk 0 [126] 0 [] 0) (.mk 2 [] (-(if -9223372036854775807 > t.n then -9223372036854775807 else t.n)) [] 0) 0 from if_neg h0]
    have hw1 : IntKind.i64.wrap (-9223372036854775807) = -9223372036854775807 := by decide
    ((try refine W.a ?_); simp only [go_sem, seval, reduceCtorEq, c16, h])
    refine W.yes rfl ?_
    ((try refine W.a ?_); simp only [go_sem, seval, reduceCtorEq, h0])
    refine W.no rfl ?_
    by_cases h1 : t.n ≥ -9223372036854775807
    · have hw : IntKind.i64.wrap (0 - t.n) = -t.n := by rw [wrap_in] <;> omega
      rw [if_neg (by omega)]
      ((try refine W.a ?_); simp only [go_sem, seval, reduceCtorEq, hw1, h1])
      refine W.yes rfl ?_
      ((try refine W.a ?_); simp only [go_sem, seval, reduceCtorEq, hw])
      (refine W.c1w (ref14_app w0 (.mk 0 [126] 0 [] 0) (.mk 2 [] (-t.n) [] 0) _) ?_; simp only [go_sem, seval, reduceCtorEq])
      (refine W.fs (hok) (by simp only [r16, go_sem, seval, reduceCtorEq]; rfl) ?_; simp only [resV]; try exact V.wk.rfl _)
      (all_goals exact wk_here)
    · rw [if_pos (by omega)]
      ((try refine W.a ?_); simp only [go_sem, seval, reduceCtorEq, hw1, h1])
      refine W.no rfl ?_
      ((try refine W.a ?_); simp only [go_sem, seval, reduceCtorEq])
      (refine W.c1w (ref14_app w0 (.mk 0 [126] 0 [] 0) (.mk 2 [] (-(-9223372036854775807)) [] 0) _) ?_; simp only [go_sem, seval, reduceCtorEq])
      (refine W.fs (hok) (by simp only [r16, go_sem, seval, reduceCtorEq]; rfl) ?_; simp only [resV]; try exact V.wk.rfl _)
      (all_goals exact wk_here)
end
section
attribute [local go_sem] Sg.v Typ.v Typ.cs_eq Pre.v Pre.cs_eq Pre.app tk_mk tname_mk tn_mk tl_mk

theorem pkind_no {t : Typ} {j : Int} (h : (t.k == j) = true) (i : Int) (hi : i ≠ j) : (t.k == i) = false := by
  have h : t.k = j := by simpa using h
  rw [beq_eq_false_iff_ne]; omega
theorem dec_fits {N : Nat} (h : N ≤ 4611686018427387904) (d : Nat) (hd : d ≤ 100) : d + (Lib.decDigits N).length ≤ 9223372036854775807 := by
  have := dec_len (u := N) (by omega)
  omega
theorem ref14_TreeEigen (w0 : World) (s : Sg) (t : Typ) (vars : List Str) (k : Nat) (h : (t.k == 1) = true) (N : Nat) (e : t.n = (N : Int)) (hN : N ≤ 4611686018427387904) (σ : H) : DC Tryz.prog w0 16 [s.v, t.v, .c (.sl (strsR vars)), I (k : Int)] σ (Same (treeM s vars k t).v σ) := by
  refine k16.go rfl (fun hok hsz => ?_)
  have hE : treeM s vars k t = .mk 0 (99 :: 39 :: Lib.decDigits N) 0 [] 0 := by
    have h : t.k = 1 := by simpa using h
    rw [treeM_eq, if_neg (by omega), if_neg (by omega), leafP, if_neg (by omega), if_neg (by omega), if_pos h, e, Int.toNat_natCast]
  rw [hE]
  clear hE
  have k2 := pkind_no h 2 (by decide)
  have k4 := pkind_no h 4 (by decide)
  have hl := dec_fits hN 2 (by decide)
  (((try refine W.a ?_); (try simp only [bne, go_sem, seval, reduceCtorEq, c16, h, k2, k4, e, hl, *])); (repeat' (first | (refine W.yes rfl ?_; (refine W.a ?_; simp only [bne, go_sem, seval, reduceCtorEq, c16, h, k2, k4, e, hl, *])) | (refine W.no rfl ?_; (refine W.a ?_; simp only [bne, go_sem, seval, reduceCtorEq, c16, h, k2, k4, e, hl, *])) | (refine W.c1 (ref01_Digits w0 N (by omega) _) ?_; simp only [bne, go_sem, seval, reduceCtorEq, c16, h, k2, k4, e, hl, *]) | (refine W.testn rfl (fun hT => ?_) (fun hT => ?_) <;> (refine W.a ?_; simp only [bne, go_sem, seval, reduceCtorEq, c16, h, k2, k4, e, hl, *])) | (refine W.test rfl (fun hT => ?_) (fun hT => ?_) <;> (refine W.a ?_; simp only [bne, go_sem, seval, reduceCtorEq, c16, h, k2, k4, e, hl, *])) | (refine advG_ifn _ _ _ _ (fun hT => ?_) (fun hT => ?_) <;> simp only [bne, go_sem, seval, reduceCtorEq, c16, h, k2, k4, e, hl, *]) | (refine advG_if _ _ _ _ (fun hT => ?_) (fun hT => ?_) <;> simp only [bne, go_sem, seval, reduceCtorEq, c16, h, k2, k4, e, hl, *]))))
  all_goals (refine W.fs (hok) (by simp only [r16, go_sem, seval, reduceCtorEq]; rfl) ?_; simp only [resV]; try exact V.wk.rfl _)
  all_goals (all_goals exact wk_here)
theorem ref14_TreeConst (w0 : World) (s : Sg) (t : Typ) (vars : List Str) (k : Nat) (h : (t.k == 0) = true) (σ : H) : DC Tryz.prog w0 16 [s.v, t.v, .c (.sl (strsR vars)), I (k : Int)] σ (Same (treeM s vars k t).v σ) := by
  refine k16.go rfl (fun hok hsz => ?_)
  have hE : treeM s vars k t = .mk 0 t.name 0 [] 0 := by
    have h : t.k = 0 := by simpa using h
    rw [treeM_eq, if_neg (by omega), if_neg (by omega), leafP, if_neg (by omega), if_neg (by omega), if_neg (by omega), if_neg (by omega)]
  rw [hE]
  clear hE
  have k1 := pkind_no h 1 (by decide)
  have k2 := pkind_no h 2 (by decide)
  have k3 := pkind_no h 3 (by decide)
  have k4 := pkind_no h 4 (by decide)
  have k5 := pkind_no h 5 (by decide)
  have k6 := pkind_no h 6 (by decide)
  (((try refine W.a ?_); (try simp only [bne, go_sem, seval, reduceCtorEq, c16, k1, k2, k3, k4, k5, k6, *])); (repeat' (first | (refine W.yes rfl ?_; (refine W.a ?_; simp only [bne, go_sem, seval, reduceCtorEq, c16, k1, k2, k3, k4, k5, k6, *])) | (refine W.no rfl ?_; (refine W.a ?_; simp only [bne, go_sem, seval, reduceCtorEq, c16, k1, k2, k3, k4, k5, k6, *])) | (refine W.testn rfl (fun hT => ?_) (fun hT => ?_) <;> (refine W.a ?_; simp only [bne, go_sem, seval, reduceCtorEq, c16, k1, k2, k3, k4, k5, k6, *])) | (refine W.test rfl (fun hT => ?_) (fun hT => ?_) <;> (refine W.a ?_; simp only [bne, go_sem, seval, reduceCtorEq, c16, k1, k2, k3, k4, k5, k6, *])) | (refine advG_ifn _ _ _ _ (fun hT => ?_) (fun hT => ?_) <;> simp only [bne, go_sem, seval, reduceCtorEq, c16, k1, k2, k3, k4, k5, k6, *]) | (refine advG_if _ _ _ _ (fun hT => ?_) (fun hT => ?_) <;> simp only [bne, go_sem, seval, reduceCtorEq, c16, k1, k2, k3, k4, k5, k6, *]))))
  all_goals (refine W.fs (hok) (by simp only [r16, go_sem, seval, reduceCtorEq]; rfl) ?_; simp only [resV]; try exact V.wk.rfl _)
  all_goals (all_goals exact wk_here)
end
section
attribute [local go_sem] Sg.v Typ.v Typ.cs_eq Pre.v Pre.cs_eq Pre.app tk_mk tname_mk tn_mk tl_mk

theorem ref14_TreeVar (w0 : World) (s : Sg) (t : Typ) (vars : List Str) (k : Nat) (h : (t.k == 4) = true) (N : Nat) (e : t.n = (N : Int)) (hN : N ≤ 4611686018427387904) (σ : H) : DC Tryz.prog w0 16 [s.v, t.v, .c (.sl (strsR vars)), I (k : Int)] σ (Same (treeM s vars k t).v σ) := by
  refine k16.go rfl (fun hok hsz => ?_)
  have hE : treeM s vars k t = if N < vars.length then .mk 1 (vars.getD N []) 0 [] 0 else .mk 1 (95 :: Lib.decDigits N) 0 [] 0 := by
    have h : t.k = 4 := by simpa using h
    rw [treeM_eq, if_neg (by omega), if_neg (by omega), leafP, if_neg (by omega), if_pos h, e, Int.toNat_natCast]
    simp only [Int.ofNat_lt]
  rw [hE]
  clear hE
  have k2 := pkind_no h 2 (by decide)
  have hl := dec_fits hN 1 (by decide)
  by_cases hv : N < vars.length
  · have h1 : (N : Int) < (vars.length : Int) := by omega
    have hx : vars[N]? = some vars[N] := List.getElem?_eq_getElem hv
    have hg : vars.getD N [] = vars[N] := by rw [List.getD_eq_getElem?_getD, hx]; rfl
    rw [if_pos hv, hg]
    (((try refine W.a ?_); (try simp only [bne, go_sem, seval, reduceCtorEq, c16, h, k2, e, h1, hx, nat0, strsR, *])); (repeat' (first | (refine W.yes rfl ?_; (refine W.a ?_; simp only [bne, go_sem, seval, reduceCtorEq, c16, h, k2, e, h1, hx, nat0, strsR, *])) | (refine W.no rfl ?_; (refine W.a ?_; simp only [bne, go_sem, seval, reduceCtorEq, c16, h, k2, e, h1, hx, nat0, strsR, *])) | (refine W.testn rfl (fun hT => ?_) (fun hT => ?_) <;> (refine W.a ?_; simp only [bne, go_sem, seval, reduceCtorEq, c16, h, k2, e, h1, hx, nat0, strsR, *])) | (refine W.test rfl (fun hT => ?_) (fun hT => ?_) <;> (refine W.a ?_; simp only [bne, go_sem, seval, reduceCtorEq, c16, h, k2, e, h1, hx, nat0, strsR, *])) | (refine advG_ifn _ _ _ _ (fun hT => ?_) (fun hT => ?_) <;> simp only [bne, go_sem, seval, reduceCtorEq, c16, h, k2, e, h1, hx, nat0, strsR, *]) | (refine advG_if _ _ _ _ (fun hT => ?_) (fun hT => ?_) <;> simp only [bne, go_sem, seval, reduceCtorEq, c16, h, k2, e, h1, hx, nat0, strsR, *]))))
    all_goals (refine W.fs (hok) (by simp only [r16, go_sem, seval, reduceCtorEq]; rfl) ?_; simp only [resV]; try exact V.wk.rfl _)
    all_goals (all_goals exact wk_here)
  · have h1 : ¬ (N : Int) < (vars.length : Int) := by omega
    rw [if_neg hv]
    (((try refine W.a ?_); (try simp only [bne, go_sem, seval, reduceCtorEq, c16, h, k2, e, hl, h1, strsR, *])); (repeat' (first | (refine W.yes rfl ?_; (refine W.a ?_; simp only [bne, go_sem, seval, reduceCtorEq, c16, h, k2, e, hl, h1, strsR, *])) | (refine W.no rfl ?_; (refine W.a ?_; simp only [bne, go_sem, seval, reduceCtorEq, c16, h, k2, e, hl, h1, strsR, *])) | (refine W.c1 (ref01_Digits w0 N (by omega) _) ?_; simp only [bne, go_sem, seval, reduceCtorEq, c16, h, k2, e, hl, h1, strsR, *]) | (refine W.testn rfl (fun hT => ?_) (fun hT => ?_) <;> (refine W.a ?_; simp only [bne, go_sem, seval, reduceCtorEq, c16, h, k2, e, hl, h1, strsR, *])) | (refine W.test rfl (fun hT => ?_) (fun hT => ?_) <;> (refine W.a ?_; simp only [bne, go_sem, seval, reduceCtorEq, c16, h, k2, e, hl, h1, strsR, *])) | (refine advG_ifn _ _ _ _ (fun hT => ?_) (fun hT => ?_) <;> simp only [bne, go_sem, seval, reduceCtorEq, c16, h, k2, e, hl, h1, strsR, *]) | (refine advG_if _ _ _ _ (fun hT => ?_) (fun hT => ?_) <;> simp only [bne, go_sem, seval, reduceCtorEq, c16, h, k2, e, hl, h1, strsR, *]))))
    all_goals (refine W.fs (hok) (by simp only [r16, go_sem, seval, reduceCtorEq]; rfl) ?_; simp only [resV]; try exact V.wk.rfl _)
    all_goals (all_goals exact wk_here)
theorem ref14_TreeBound (w0 : World) (s : Sg) (t : Typ) (vars : List Str) (k : Nat) (h : (t.k == 3) = true) (N : Nat) (e : t.n = (N : Int)) (hN : N ≤ 4611686018427387904) (hk : k ≤ 1000) (hT : (takenT s vars).length ≤ 900000) (σ : H) : DC Tryz.prog w0 16 [s.v, t.v, .c (.sl (strsR vars)), I (k : Int)] σ (Same (treeM s vars k t).v σ) := by
  refine k16.go rfl (fun hok hsz => ?_)
  have hE : treeM s vars k t = if N < k then .mk 0 (nameM s vars (k - 1 - N)) 0 [] 0 else .mk 0 (98 :: 39 :: Lib.decDigits (N - k)) 0 [] 0 := by
    have h : t.k = 3 := by simpa using h
    rw [treeM_eq, if_neg (by omega), if_neg (by omega), leafP, if_neg (by omega), if_neg (by omega), if_neg (by omega), if_pos h, e, Int.toNat_natCast]
    simp only [Int.ofNat_lt]
  rw [hE]
  clear hE
  have k1 := pkind_no h 1 (by decide)
  have k2 := pkind_no h 2 (by decide)
  have k4 := pkind_no h 4 (by decide)
  by_cases hv : N < k
  · have h1 : (N : Int) < (k : Int) := by omega
    have hw1 : IntKind.i64.wrap ((k : Int) - 1) = ((k - 1 : Nat) : Int) := by rw [wrap_in] <;> omega
    have hw2 : IntKind.i64.wrap (((k - 1 : Nat) : Int) - (N : Int)) = ((k - 1 - N : Nat) : Int) := by rw [wrap_in] <;> omega
    have hb := numAt_le s vars (k - 1 - N)
    have hR := fun σ => ref14_Name w0 s vars (k - 1 - N) (numAt s vars (k - 1 - N)) (by omega) (numAt_at s vars _) (by omega) σ
    rw [if_pos hv]
    unfold nameM
    (((try refine W.a ?_); (try simp only [bne, go_sem, seval, reduceCtorEq, c16, h, k1, k2, k4, e, h1, hw1, hw2, *])); (repeat' (first | (refine W.yes rfl ?_; (refine W.a ?_; simp only [bne, go_sem, seval, reduceCtorEq, c16, h, k1, k2, k4, e, h1, hw1, hw2, *])) | (refine W.no rfl ?_; (refine W.a ?_; simp only [bne, go_sem, seval, reduceCtorEq, c16, h, k1, k2, k4, e, h1, hw1, hw2, *])) | (refine W.c1 (hR _) ?_; simp only [bne, go_sem, seval, reduceCtorEq, c16, h, k1, k2, k4, e, h1, hw1, hw2, *]) | (refine W.testn rfl (fun hT => ?_) (fun hT => ?_) <;> (refine W.a ?_; simp only [bne, go_sem, seval, reduceCtorEq, c16, h, k1, k2, k4, e, h1, hw1, hw2, *])) | (refine W.test rfl (fun hT => ?_) (fun hT => ?_) <;> (refine W.a ?_; simp only [bne, go_sem, seval, reduceCtorEq, c16, h, k1, k2, k4, e, h1, hw1, hw2, *])) | (refine advG_ifn _ _ _ _ (fun hT => ?_) (fun hT => ?_) <;> simp only [bne, go_sem, seval, reduceCtorEq, c16, h, k1, k2, k4, e, h1, hw1, hw2, *]) | (refine advG_if _ _ _ _ (fun hT => ?_) (fun hT => ?_) <;> simp only [bne, go_sem, seval, reduceCtorEq, c16, h, k1, k2, k4, e, h1, hw1, hw2, *]))))
    all_goals (refine W.fs (hok) (by simp only [r16, go_sem, seval, reduceCtorEq]; rfl) ?_; simp only [resV]; try exact V.wk.rfl _)
    all_goals (all_goals exact wk_here)
  · have h1 : ¬ (N : Int) < (k : Int) := by omega
    have hw : IntKind.i64.wrap ((N : Int) - (k : Int)) = ((N - k : Nat) : Int) := by rw [wrap_in] <;> omega
    have hl := dec_fits (N := N - k) (by omega) 2 (by decide)
    rw [if_neg hv]
    (((try refine W.a ?_); (try simp only [bne, go_sem, seval, reduceCtorEq, c16, h, k1, k2, k4, e, hl, h1, hw, *])); (repeat' (first | (refine W.yes rfl ?_; (refine W.a ?_; simp only [bne, go_sem, seval, reduceCtorEq, c16, h, k1, k2, k4, e, hl, h1, hw, *])) | (refine W.no rfl ?_; (refine W.a ?_; simp only [bne, go_sem, seval, reduceCtorEq, c16, h, k1, k2, k4, e, hl, h1, hw, *])) | (refine W.c1 (ref01_Digits w0 (N - k) (by omega) _) ?_; simp only [bne, go_sem, seval, reduceCtorEq, c16, h, k1, k2, k4, e, hl, h1, hw, *]) | (refine W.testn rfl (fun hT => ?_) (fun hT => ?_) <;> (refine W.a ?_; simp only [bne, go_sem, seval, reduceCtorEq, c16, h, k1, k2, k4, e, hl, h1, hw, *])) | (refine W.test rfl (fun hT => ?_) (fun hT => ?_) <;> (refine W.a ?_; simp only [bne, go_sem, seval, reduceCtorEq, c16, h, k1, k2, k4, e, hl, h1, hw, *])) | (refine advG_ifn _ _ _ _ (fun hT => ?_) (fun hT => ?_) <;> simp only [bne, go_sem, seval, reduceCtorEq, c16, h, k1, k2, k4, e, hl, h1, hw, *]) | (refine advG_if _ _ _ _ (fun hT => ?_) (fun hT => ?_) <;> simp only [bne, go_sem, seval, reduceCtorEq, c16, h, k1, k2, k4, e, hl, h1, hw, *]))))
    all_goals (refine W.fs (hok) (by simp only [r16, go_sem, seval, reduceCtorEq]; rfl) ?_; simp only [resV]; try exact V.wk.rfl _)
    all_goals (all_goals exact wk_here)
end
section
attribute [local go_sem] Sg.v Typ.v Typ.cs_eq Pre.v Pre.cs_eq Pre.app tk_mk tname_mk tn_mk tl_mk

theorem ref14_TreeLam (w0 : World) (s : Sg) (t b : Typ) (vars : List Str) (k : Nat) (h : (t.k == 5) = true) (hl : t.l = [b]) (hk : k ≤ 1000) (hT : (takenT s vars).length ≤ 900000) (hb : ∀ σ, DC Tryz.prog w0 16 [s.v, b.v, .c (.sl (strsR vars)), I ((k + 1 : Nat) : Int)] σ (Same (treeM s vars (k + 1) b).v σ)) (σ : H) : DC Tryz.prog w0 16 [s.v, t.v, .c (.sl (strsR vars)), I (k : Int)] σ (Same (treeM s vars k t).v σ) := by
  refine k16.go rfl (fun hok hsz => ?_)
  have hE : treeM s vars k t = .mk 4 (nameM s vars k) 0 [treeM s vars (k + 1) b] 0 := by
    have h : t.k = 5 := by simpa using h
    rw [treeM_eq, if_pos h, hl]
    rfl
  rw [hE]
  clear hE
  have k1 := pkind_no h 1 (by decide)
  have k2 := pkind_no h 2 (by decide)
  have k3 := pkind_no h 3 (by decide)
  have k4 := pkind_no h 4 (by decide)
  have hw : IntKind.i64.wrap ((k : Int) + 1) = ((k + 1 : Nat) : Int) := by rw [wrap_in] <;> omega
  have hn := numAt_le s vars k
  have hR := fun σ => ref14_Name w0 s vars k (numAt s vars k) (by omega) (numAt_at s vars _) (by omega) σ
  unfold nameM
  (((try refine W.a ?_); (try simp only [bne, go_sem, seval, reduceCtorEq, c16, h, k1, k2, k3, k4, *])); (repeat' (first | (refine W.yes rfl ?_; (refine W.a ?_; simp only [bne, go_sem, seval, reduceCtorEq, c16, h, k1, k2, k3, k4, *])) | (refine W.no rfl ?_; (refine W.a ?_; simp only [bne, go_sem, seval, reduceCtorEq, c16, h, k1, k2, k3, k4, *])) | (refine W.testn rfl (fun hT => ?_) (fun hT => ?_) <;> (refine W.a ?_; simp only [bne, go_sem, seval, reduceCtorEq, c16, h, k1, k2, k3, k4, *])) | (refine W.test rfl (fun hT => ?_) (fun hT => ?_) <;> (refine W.a ?_; simp only [bne, go_sem, seval, reduceCtorEq, c16, h, k1, k2, k3, k4, *])) | (refine advG_ifn _ _ _ _ (fun hT => ?_) (fun hT => ?_) <;> simp only [bne, go_sem, seval, reduceCtorEq, c16, h, k1, k2, k3, k4, *]) | (refine advG_if _ _ _ _ (fun hT => ?_) (fun hT => ?_) <;> simp only [bne, go_sem, seval, reduceCtorEq, c16, h, k1, k2, k3, k4, *]))))
  apply W.dregE (List.cons_ne_nil _ _)
  case hc =>
    (apply CanonE.advPO; simp only [go_sem, seval, reduceCtorEq, hl, nat0, hw])
    (apply CanonE.call (hR _); (case hg => rfl); (case hf => rfl); (case ha => first | rfl | simp))
    (apply CanonE.advPO; simp only [go_sem, seval, reduceCtorEq, hl, nat0, hw])
    (apply CanonE.call (hb _); (case hg => rfl); (case hf => rfl); (case ha => first | rfl | simp))
    (apply CanonE.advPO; simp only [go_sem, seval, reduceCtorEq, hl, nat0, hw])
    exact CanonE.nil
  ((try refine W.a ?_); simp only [go_sem, seval, reduceCtorEq])
  (refine W.fs (hok) (by simp only [r16, go_sem, seval, reduceCtorEq]; rfl) ?_; simp only [resV]; try exact V.wk.rfl _)
  all_goals (all_goals exact wk_here)
end
section
attribute [local go_sem] Sg.v Typ.v Typ.cs_eq Pre.v Pre.cs_eq Pre.app tk_mk tname_mk tn_mk tl_mk

theorem ref14_TreeApp (w0 : World) (s : Sg) (t a : Typ) (l : List Typ) (vars : List Str) (k : Nat) (h : (t.k == 6) = true) (hl : t.l = a :: l) (hb : ∀ u ∈ t.l, ∀ σ, DC Tryz.prog w0 16 [s.v, u.v, .c (.sl (strsR vars)), I (k : Int)] σ (Same (treeM s vars k u).v σ)) (σ : H) : DC Tryz.prog w0 16 [s.v, t.v, .c (.sl (strsR vars)), I (k : Int)] σ (Same (treeM s vars k t).v σ) := by
  refine k16.go rfl (fun hok hsz => ?_)
  have hE : treeM s vars k t = accM s vars k a l l.length := by
    have h : t.k = 6 := by simpa using h
    rw [treeM_eq, if_neg (by omega), if_pos h, hl, accM_all]
  rw [hE]
  clear hE
  have hlen : t.l.length ≤ 9223372036854775807 := typ_len hsz (.tail _ (.head _))
  obtain ⟨tk, tn, tm, tl⟩ := t
  have hl : tl = a :: l := hl
  subst hl
  have h : (tk == 6) = true := h
  have k1 : (tk == 1) = false := pkind_no (t := .mk tk tn tm (a :: l)) h 1 (by decide)
  have k2 : (tk == 2) = false := pkind_no (t := .mk tk tn tm (a :: l)) h 2 (by decide)
  have k3 : (tk == 3) = false := pkind_no (t := .mk tk tn tm (a :: l)) h 3 (by decide)
  have k4 : (tk == 4) = false := pkind_no (t := .mk tk tn tm (a :: l)) h 4 (by decide)
  have k5 : (tk == 5) = false := pkind_no (t := .mk tk tn tm (a :: l)) h 5 (by decide)
  have ha := fun σ => hb a (List.mem_cons_self ..) σ
  have hlen : l.length + 1 ≤ 9223372036854775807 := hlen
  have hA := accM_zero s vars k a l
  generalize hG : accM s vars k a l = A at hA ⊢
  have hS : ∀ i (hi : i < l.length), A (i + 1) = .app (A i) (treeM s vars k l[i]) 0 := fun i hi => by rw [← hG]; exact accM_succ s vars k a l i hi
  rw [← hA] at ha
  have h00 : (0 : Int) < ((l.length + 1 : Nat) : Int) := by omega
  (((try refine W.a ?_); (try simp only [bne, go_sem, seval, reduceCtorEq, c16, h, k1, k2, k3, k4, k5, *])); (repeat' (first | (refine W.yes rfl ?_; (refine W.a ?_; simp only [bne, go_sem, seval, reduceCtorEq, c16, h, k1, k2, k3, k4, k5, *])) | (refine W.no rfl ?_; (refine W.a ?_; simp only [bne, go_sem, seval, reduceCtorEq, c16, h, k1, k2, k3, k4, k5, *])) | (refine W.testn rfl (fun hT => ?_) (fun hT => ?_) <;> (refine W.a ?_; simp only [bne, go_sem, seval, reduceCtorEq, c16, h, k1, k2, k3, k4, k5, *])) | (refine W.test rfl (fun hT => ?_) (fun hT => ?_) <;> (refine W.a ?_; simp only [bne, go_sem, seval, reduceCtorEq, c16, h, k1, k2, k3, k4, k5, *])) | (refine advG_ifn _ _ _ _ (fun hT => ?_) (fun hT => ?_) <;> simp only [bne, go_sem, seval, reduceCtorEq, c16, h, k1, k2, k3, k4, k5, *]) | (refine advG_if _ _ _ _ (fun hT => ?_) (fun hT => ?_) <;> simp only [bne, go_sem, seval, reduceCtorEq, c16, h, k1, k2, k3, k4, k5, *]))))
  apply W.dregE (List.cons_ne_nil _ _)
  case hc =>
    (apply CanonE.advPO; simp only [go_sem, seval, reduceCtorEq, nat0, h00])
    (apply CanonE.pcall (fun τ => ha τ); (case hg => rfl); (case hf => rfl); (case ha => first | rfl | simp))
    (apply CanonE.advPO; simp only [go_sem, seval, reduceCtorEq, nat0, h00])
    exact CanonE.nil
  ((try refine W.a ?_); simp only [go_sem, seval, reduceCtorEq])
  refine W.loopP (fun i => i ≤ l.length) (fun i => ⟨(((((((base.put (some 2) (.c (.sl (strsR vars)))).put (some 3) (I (k : Int))).put (some 4) (.ptr σ.length 0)).put (some 5) (.ptr (σ.length + 1) 0)).put (some 8) (.ptr (σ.length + 2) 0)).put (some 10) (.ptr (σ.length + 3) 0)).put (some 11) (I ((i + 1 : Nat) : Int))), σ ++ [.cells s.v.cellsV, .cells [I tk, S tn, I tm, .c (.sl ([.int .i64 a.k, .str a.name, .int .i64 a.n, .sl (a.l.map Typ.cs)] :: l.map Typ.cs))], .cells [I 0, S [], I 0, .csl [], I 0], .cells (A i).v.cellsV]⟩) (fun i => l.length - i) 0 (Nat.zero_le _) ?_ (fun i hi => ?_)
  · (refine Lew.env ?_; exact lee_here)
  · by_cases hlt : i < l.length
    · have h1 : ((i + 1 : Nat) : Int) < ((l.length + 1 : Nat) : Int) := by omega
      have hx : l[i]? = some l[i] := List.getElem?_eq_getElem hlt
      have hw : IntKind.i64.wrap (((i + 1 : Nat) : Int) + 1) = ((i + 1 + 1 : Nat) : Int) := by rw [wrap_in] <;> omega
      have h0 : (0 : Int) ≤ ((i + 1 : Nat) : Int) := by omega
      have hu := fun σ => hb l[i] (List.mem_cons_of_mem _ (List.getElem_mem hlt)) σ
      have hn := hS i hlt
      ((try refine W.a ?_); simp only [go_sem, seval, reduceCtorEq, h1])
      refine W.yes rfl ?_
      ((try refine W.a ?_); simp only [go_sem, seval, reduceCtorEq])
      apply W.dregE (List.cons_ne_nil _ _)
      case hc =>
        (apply CanonE.advPO; simp only [go_sem, seval, reduceCtorEq, h1, h0, hx])
        (apply CanonE.call (hu _); (case hg => rfl); (case hf => rfl); (case ha => first | rfl | simp))
        (apply CanonE.advPO; simp only [go_sem, seval, reduceCtorEq, h1, h0, hx])
        (apply CanonE.call (ref14_app w0 (A i) (treeM s vars k l[i]) _); (case hg => rfl); (case hf => rfl); (case ha => first | rfl | simp))
        (apply CanonE.advPO; simp only [go_sem, seval, reduceCtorEq])
        exact CanonE.nil
      ((try refine W.a ?_); simp only [go_sem, seval, reduceCtorEq, hw])
      refine .inv ⟨i + 1, hlt, by omega, ?_⟩
      rw [hn]
      simp only [go_sem, seval, reduceCtorEq]
      (refine Lew.cutL (hok) ?_ (by simp) (by simp) ?_ ?_ ?_; exact lee_here; ((try simp only [okB, wkB, go_sem, seval, reduceCtorEq]) <;> omega); (simp only [List.length_cons, List.length_nil, Nat.reduceAdd, List.take_succ_cons, List.take_zero, wkB, and_true]; (repeat' (refine And.intro ?_ ?_)) <;> (first | exact Blk.wk.rfl _ | exact Blk.wk.gone _ | (refine Blk.wk_cells ?_ rfl; (exact wk_here)))); (repeat' (first | exact LowE.base _ | (refine LowE.put ?_ (by first | exact .c _ | ((try simp only [okB, wkB, go_sem, seval, reduceCtorEq]) <;> omega))))))
    · obtain rfl : i = l.length := by omega
      have h1 : ¬ ((l.length + 1 : Nat) : Int) < ((l.length + 1 : Nat) : Int) := by omega
      ((try refine W.a ?_); simp only [go_sem, seval, reduceCtorEq, h1])
      refine W.no rfl ?_
      ((try refine W.a ?_); simp only [go_sem, seval, reduceCtorEq])
      (refine W.fs (hok) (by simp only [r16, go_sem, seval, reduceCtorEq]; rfl) ?_; simp only [resV]; try exact V.wk.rfl _)
      all_goals (all_goals exact wk_here)
theorem ref14_Tree (w0 : World) (s : Sg) (vars : List Str) (hT : (takenT s vars).length ≤ 900000) (t : Typ) : OkT t → validM t = true → nearM 1099511627776 t = true → ∀ (k : Nat), k + nodesM t ≤ 1000 → ∀ (σ : H), DC Tryz.prog w0 16 [s.v, t.v, .c (.sl (strsR vars)), I (k : Int)] σ (Same (treeM s vars k t).v σ) := by
  refine Typ.ind (P := fun t => OkT t → validM t = true → nearM 1099511627776 t = true → ∀ (k : Nat), k + nodesM t ≤ 1000 → ∀ (σ : H), DC Tryz.prog w0 16 [s.v, t.v, .c (.sl (strsR vars)), I (k : Int)] σ (Same (treeM s vars k t).v σ)) (fun t ih hO hv hnr k hk σ => ?_) t
  rw [validM_eq, Bool.and_eq_true] at hv
  rw [nearM_eq, Bool.and_eq_true] at hnr
  have hn := hv.1
  have hkids : ∀ u ∈ t.l, validM u = true := List.all_eq_true.1 hv.2
  have hnears : ∀ u ∈ t.l, nearM 1099511627776 u = true := List.all_eq_true.1 hnr.2
  have hnear := hnr.1
  rcases nodeM_kinds hn with h | h | h | h | h | h | h
  · exact ref14_TreeConst w0 s t vars k (by simp [h]) σ
  · have h1 : 1 ≤ t.n := by unfold nodeM at hn; simp [h] at hn; exact hn.1.1
    obtain ⟨N, hN⟩ : ∃ N : Nat, t.n = (N : Int) := ⟨t.n.toNat, by omega⟩
    refine ref14_TreeEigen w0 s t vars k (by simp [h]) N hN ?_ σ
    simp [h] at hnear
    omega
  · exact ref14_TreeInt w0 s t vars k (by simp [h]) hO.n σ
  · have h1 : 0 ≤ t.n ∧ t.n ≤ 4611686018427387904 := by unfold nodeM at hn; simp [h] at hn; exact ⟨hn.1.1.1, hn.1.1.2⟩
    obtain ⟨N, hN⟩ : ∃ N : Nat, t.n = (N : Int) := ⟨t.n.toNat, by omega⟩
    exact ref14_TreeBound w0 s t vars k (by simp [h]) N hN (by omega) (by omega) hT σ
  · have h1 : 0 ≤ t.n ∧ t.n ≤ 4611686018427387904 := by unfold nodeM at hn; simp [h] at hn; exact ⟨hn.1.1.1, hn.1.1.2⟩
    obtain ⟨N, hN⟩ : ∃ N : Nat, t.n = (N : Int) := ⟨t.n.toNat, by omega⟩
    exact ref14_TreeVar w0 s t vars k (by simp [h]) N hN (by omega) σ
  · have h1 : t.l.length = 1 := by unfold nodeM at hn; simp [h] at hn; exact hn.2
    obtain ⟨b, hb⟩ : ∃ b, t.l = [b] := by
      match hl : t.l, h1 with
      | [b], _ => exact ⟨b, rfl⟩
    have hm : b ∈ t.l := by rw [hb]; exact List.mem_cons_self ..
    have := nodesM_mem hm
    exact ref14_TreeLam w0 s t b vars k (by simp [h]) hb (by omega) hT (fun σ => ih b hm (hO.mem hm) (hkids b hm) (hnears b hm) (k + 1) (by omega) σ) σ
  · have h1 : 2 ≤ t.l.length := by unfold nodeM at hn; simp [h] at hn; exact hn.1.1.2
    obtain ⟨a, l, hl⟩ : ∃ a l, t.l = a :: l := by
      match hl : t.l, h1 with
      | a :: l, _ => exact ⟨a, l, rfl⟩
    exact ref14_TreeApp w0 s t a l vars k (by simp [h]) hl (fun u hu σ => ih u hu (hO.mem hu) (hkids u hu) (hnears u hu) k (by have := nodesM_mem hu; omega) σ) σ
end
section
section
attribute [local go_sem] tysC
theorem slices_ConcatT (w0 : World) (ls : List (List Typ)) (hn : ls.flatten.length ≤ 100000) (hls : ls.length ≤ 100000) (σ : H) :
    DC Tryz.prog w0 124 [.csl (ls.map fun r => [tysC r])] σ (Same (.c (tysC ls.flatten)) σ) := by
  refine k124.go rfl (fun hok hsz => ?_)
  ((try refine W.a ?_); simp only [go_sem, seval, reduceCtorEq, c124])
  refine W.loopP (fun i => i ≤ ls.length) (fun i => ⟨(((((base.put (some 0) (.csl (ls.map fun r => [tysC r]))).put (some 3) (I (ls.take i).flatten.length)).put (some 9) (.csl (ls.map fun r => [tysC r]))).put (some 10) (I ls.length)).put (some 11) (I i)), σ⟩) (fun i => ls.length - i) 0 (Nat.zero_le _) ?_ (fun i hi => ?_)
  · (refine Lew.env ?_; exact lee_here)
  · by_cases hlt : i < ls.length
    · have h1 : ((i : Int) < (ls.length : Int)) := by omega
      have hx : ls[i]? = some ls[i] := List.getElem?_eq_getElem hlt
      have hft := flat_take hlt
      have hfl : (ls.take (i + 1)).flatten.length = (ls.take i).flatten.length + ls[i].length := by rw [hft, List.length_append]
      have hle := flat_le (ls := ls) (i + 1)
      have hw : IntKind.i64.wrap ((i : Int) + 1) = ((i + 1 : Nat) : Int) := by rw [wrap_in] <;> omega
      have hw2 : IntKind.i64.wrap (((ls.take i).flatten.length : Int) + (ls[i].length : Int)) = (((ls.take (i + 1)).flatten.length : Nat) : Int) := by rw [wrap_in] <;> omega
      have hneg : ¬ ((((ls.take (i + 1)).flatten.length : Nat) : Int) < 0) := by omega
      ((try refine W.a ?_); simp only [go_sem, seval, reduceCtorEq, h1])
      refine W.yes rfl ?_
      ((try refine W.a ?_); simp only [go_sem, seval, reduceCtorEq, h1, nat0, hx, hw2, hneg])
      refine W.no rfl ?_
      ((try refine W.a ?_); simp only [go_sem, seval, reduceCtorEq, hw])
      refine .inv ⟨i + 1, hlt, by omega, ?_⟩
      (refine Lew.env ?_; exact lee_here)
    · have h1 : ¬ ((i : Int) < (ls.length : Int)) := by omega
      have hi' : i = ls.length := by omega
      subst hi'
      ((try refine W.a ?_); simp only [go_sem, seval, reduceCtorEq, h1])
      refine W.no rfl ?_
      ((try refine W.a ?_); simp only [go_sem, seval, reduceCtorEq, List.take_length])
      (refine W.c1 (slices_GrowT w0 ls.flatten.length (by omega) _) ?_; simp only [go_sem, seval, reduceCtorEq])
      refine W.loopP (fun i => i ≤ ls.length) (fun i => ⟨((((base.put (some 6) (.osl σ.length ((ls.take i).flatten.map Typ.cs))).put (some 25) (.csl (ls.map fun r => [tysC r]))).put (some 26) (I ls.length)).put (some 27) (I i)), σ ++ [.spare 30 4 (ls.take i).flatten.length]⟩) (fun i => ls.length - i) 0 (Nat.zero_le _) ?_ (fun i hi => ?_)
      · (refine Lew.env ?_; exact lee_here)
      · by_cases hlt : i < ls.length
        · have h1 : ((i : Int) < (ls.length : Int)) := by omega
          have hx : ls[i]? = some ls[i] := List.getElem?_eq_getElem hlt
          have hft := flat_take hlt
          have hfl : (ls.take (i + 1)).flatten.length = (ls.take i).flatten.length + ls[i].length := by rw [hft, List.length_append]
          have hle := flat_le (ls := ls) (i + 1)
          have hb1 : ((ls.take i).flatten.length + ls[i].length) * 56 ≤ 140737488355328 := by omega
          have hb2 : (ls.take i).flatten.length + ls[i].length ≤ 140737488355328 := by omega
          have hb3 : ∀ r ∈ ls[i].map Typ.cs, r.length = 4 := fun r hr => by obtain ⟨o, _, rfl⟩ := List.mem_map.1 hr; rw [Typ.cs_eq]; rfl
          have hta : (ls.take (i + 1)).flatten.map Typ.cs = (ls.take i).flatten.map Typ.cs ++ ls[i].map Typ.cs := by rw [hft, List.map_append]
          have hw : IntKind.i64.wrap ((i : Int) + 1) = ((i + 1 : Nat) : Int) := by rw [wrap_in] <;> omega
          ((try refine W.a ?_); simp only [go_sem, seval, reduceCtorEq, h1])
          refine W.yes rfl ?_
          ((try refine W.a ?_); simp only [go_sem, seval, reduceCtorEq, h1, nat0, hx, hb1, hb2, eq_self, hw, eq_true hb3])
          refine .inv ⟨i + 1, hlt, by omega, ?_⟩
          simp only [go_sem, seval, reduceCtorEq, hta, hfl]
          (refine Lew.env ?_; exact lee_here)
        · have h1 : ¬ ((i : Int) < (ls.length : Int)) := by omega
          have hi' : i = ls.length := by omega
          subst hi'
          ((try refine W.a ?_); simp only [go_sem, seval, reduceCtorEq, h1])
          refine W.no rfl ?_
          ((try refine W.a ?_); simp only [go_sem, seval, reduceCtorEq, List.take_length])
          (refine W.fs (hok) (by simp only [r124, go_sem, seval, reduceCtorEq]; rfl) ?_; simp only [resV]; try exact V.wk.rfl _)
          (all_goals exact wk_here)
end
attribute [local go_sem] Typ.v Typ.cs_eq tk_mk tname_mk tn_mk tl_mk
theorem term_within (w0 : World) (t : Typ) (σ : H) : DC Tryz.prog w0 170 [t.v] σ (Same (.tup [.c (tysC (if t.k = 5 ∨ t.k = 6 then t.l else [])), I (if t.k = 5 then 1 else 0)]) σ) := by
  refine k170.go rfl (fun hok hsz => ?_)
  by_cases h5 : t.k = 5
  · have k5 : (t.k == 5) = true := by simp [h5]
    rw [if_pos (.inl h5), if_pos h5]
    clear h5
    (((try refine W.a ?_); (try simp only [bne, go_sem, seval, reduceCtorEq, c170, k5, *])); (repeat' (first | (refine W.yes rfl ?_; (refine W.a ?_; simp only [bne, go_sem, seval, reduceCtorEq, c170, k5, *])) | (refine W.no rfl ?_; (refine W.a ?_; simp only [bne, go_sem, seval, reduceCtorEq, c170, k5, *])) | (refine W.testn rfl (fun hT => ?_) (fun hT => ?_) <;> (refine W.a ?_; simp only [bne, go_sem, seval, reduceCtorEq, c170, k5, *])) | (refine W.test rfl (fun hT => ?_) (fun hT => ?_) <;> (refine W.a ?_; simp only [bne, go_sem, seval, reduceCtorEq, c170, k5, *])) | (refine advG_ifn _ _ _ _ (fun hT => ?_) (fun hT => ?_) <;> simp only [bne, go_sem, seval, reduceCtorEq, c170, k5, *]) | (refine advG_if _ _ _ _ (fun hT => ?_) (fun hT => ?_) <;> simp only [bne, go_sem, seval, reduceCtorEq, c170, k5, *]))))
    all_goals (refine W.fs (hok) (by simp only [r170, go_sem, seval, reduceCtorEq]; rfl) ?_; simp only [resV]; try exact V.wk.rfl _)
    all_goals (all_goals exact wk_here)
  · rw [if_neg h5]
    have k5 : (t.k == 5) = false := by simp [h5]
    by_cases h6 : t.k = 6
    · have k6 : (t.k == 6) = true := by simp [h6]
      rw [if_pos (.inr h6)]
      clear h6 h5
      (((try refine W.a ?_); (try simp only [bne, go_sem, seval, reduceCtorEq, c170, k5, k6, *])); (repeat' (first | (refine W.yes rfl ?_; (refine W.a ?_; simp only [bne, go_sem, seval, reduceCtorEq, c170, k5, k6, *])) | (refine W.no rfl ?_; (refine W.a ?_; simp only [bne, go_sem, seval, reduceCtorEq, c170, k5, k6, *])) | (refine W.testn rfl (fun hT => ?_) (fun hT => ?_) <;> (refine W.a ?_; simp only [bne, go_sem, seval, reduceCtorEq, c170, k5, k6, *])) | (refine W.test rfl (fun hT => ?_) (fun hT => ?_) <;> (refine W.a ?_; simp only [bne, go_sem, seval, reduceCtorEq, c170, k5, k6, *])) | (refine advG_ifn _ _ _ _ (fun hT => ?_) (fun hT => ?_) <;> simp only [bne, go_sem, seval, reduceCtorEq, c170, k5, k6, *]) | (refine advG_if _ _ _ _ (fun hT => ?_) (fun hT => ?_) <;> simp only [bne, go_sem, seval, reduceCtorEq, c170, k5, k6, *]))))
      all_goals (refine W.fs (hok) (by simp only [r170, go_sem, seval, reduceCtorEq]; rfl) ?_; simp only [resV]; try exact V.wk.rfl _)
      all_goals (all_goals exact wk_here)
    · have k6 : (t.k == 6) = false := by simp [h6]
      rw [if_neg (by omega)]
      clear h6 h5
      (((try refine W.a ?_); (try simp only [bne, go_sem, seval, reduceCtorEq, c170, k5, k6, *])); (repeat' (first | (refine W.yes rfl ?_; (refine W.a ?_; simp only [bne, go_sem, seval, reduceCtorEq, c170, k5, k6, *])) | (refine W.no rfl ?_; (refine W.a ?_; simp only [bne, go_sem, seval, reduceCtorEq, c170, k5, k6, *])) | (refine W.testn rfl (fun hT => ?_) (fun hT => ?_) <;> (refine W.a ?_; simp only [bne, go_sem, seval, reduceCtorEq, c170, k5, k6, *])) | (refine W.test rfl (fun hT => ?_) (fun hT => ?_) <;> (refine W.a ?_; simp only [bne, go_sem, seval, reduceCtorEq, c170, k5, k6, *])) | (refine advG_ifn _ _ _ _ (fun hT => ?_) (fun hT => ?_) <;> simp only [bne, go_sem, seval, reduceCtorEq, c170, k5, k6, *]) | (refine advG_if _ _ _ _ (fun hT => ?_) (fun hT => ?_) <;> simp only [bne, go_sem, seval, reduceCtorEq, c170, k5, k6, *]))))
      all_goals (refine W.fs (hok) (by simp only [r170, go_sem, seval, reduceCtorEq]; rfl) ?_; simp only [resV]; try exact V.wk.rfl _)
      all_goals (all_goals exact wk_here)
theorem term_Apply (w0 : World) (f : Typ) (xs : List Typ) (hn : f.l.length + xs.length ≤ 99998) (σ : H) : DC Tryz.prog w0 42 [f.v, .c (.sl (xs.map Typ.cs))] σ (Same (applyM f xs).v σ) := by
  refine k42.go rfl (fun hok hsz => ?_)
  by_cases h0 : xs = []
  · have e : applyM f xs = f := by unfold applyM; rw [if_pos h0]
    rw [e]
    subst h0
    ((try refine W.a ?_); simp only [go_sem, seval, reduceCtorEq, c42])
    refine W.yes rfl ?_
    ((try refine W.a ?_); simp only [go_sem, seval, reduceCtorEq])
    (refine W.fs (hok) (by simp only [r42, go_sem, seval, reduceCtorEq]; rfl) ?_; simp only [resV]; try exact V.wk.rfl _)
    all_goals (all_goals exact wk_here)
  have hl : 0 < xs.length := List.length_pos_iff.2 h0
  have q0 : ((xs.length : Int) == 0) = false := by simp; omega
  have e : applyM f xs = .mk 6 [] 0 ((if f.k = 6 ∧ f.l ≠ [] then f.l else [f]) ++ xs) := by unfold applyM; rw [if_neg h0]
  rw [e]
  clear e
  have hC := fun (h : List Typ) (hh : h.length ≤ 99999 - xs.length) σ => slices_ConcatT w0 [h, xs] (by simp; omega) (by simp) σ
  simp only [List.map_cons, List.map_nil, List.flatten_cons, List.flatten_nil, List.append_nil, tysC] at hC
  by_cases h6 : f.k = 6
  · have k6 : (f.k == 6) = true := by simp [h6]
    by_cases hf : f.l = []
    · rw [if_neg (fun h => h.2 hf)]
      have q1 : ¬ ((f.l.length : Int) > 0) := by rw [hf]; simp
      have hCc := hC [f] (by simp only [List.length_cons, List.length_nil]; omega)
      simp only [List.map_cons, List.map_nil, Typ.cs_eq] at hCc
      clear h6 hf
      ((try refine W.a ?_); simp only [go_sem, seval, reduceCtorEq, c42, q0])
      refine W.no rfl ?_
      ((try refine W.a ?_); simp only [go_sem, seval, reduceCtorEq, k6, q1])
      refine W.no rfl ?_
      ((try refine W.a ?_); simp only [go_sem, seval, reduceCtorEq])
      (refine W.c1 (hCc _) ?_; simp only [go_sem, seval, reduceCtorEq])
      ((try refine W.a ?_); simp only [go_sem, seval, reduceCtorEq])
      (refine W.fs (hok) (by simp only [r42, go_sem, seval, reduceCtorEq]; rfl) ?_; simp only [resV]; try exact V.wk.rfl _)
      all_goals (all_goals exact wk_here)
    · rw [if_pos ⟨h6, hf⟩]
      have hp : 0 < f.l.length := List.length_pos_iff.2 hf
      have q1 : ((f.l.length : Int) > 0) := by omega
      have hCc := hC f.l (by omega)
      clear h6 hf
      ((try refine W.a ?_); simp only [go_sem, seval, reduceCtorEq, c42, q0])
      refine W.no rfl ?_
      ((try refine W.a ?_); simp only [go_sem, seval, reduceCtorEq, k6, q1])
      refine W.yes rfl ?_
      ((try refine W.a ?_); simp only [go_sem, seval, reduceCtorEq])
      (refine W.c1 (hCc _) ?_; simp only [go_sem, seval, reduceCtorEq])
      ((try refine W.a ?_); simp only [go_sem, seval, reduceCtorEq])
      (refine W.fs (hok) (by simp only [r42, go_sem, seval, reduceCtorEq]; rfl) ?_; simp only [resV]; try exact V.wk.rfl _)
      all_goals (all_goals exact wk_here)
  · rw [if_neg (fun h => h6 h.1)]
    have k6 : (f.k == 6) = false := by simp [h6]
    have hCc := hC [f] (by simp only [List.length_cons, List.length_nil]; omega)
    simp only [List.map_cons, List.map_nil, Typ.cs_eq] at hCc
    clear h6
    ((try refine W.a ?_); simp only [go_sem, seval, reduceCtorEq, c42, q0])
    refine W.no rfl ?_
    ((try refine W.a ?_); simp only [go_sem, seval, reduceCtorEq, k6])
    refine W.no rfl ?_
    ((try refine W.a ?_); simp only [go_sem, seval, reduceCtorEq])
    (refine W.c1 (hCc _) ?_; simp only [go_sem, seval, reduceCtorEq])
    ((try refine W.a ?_); simp only [go_sem, seval, reduceCtorEq])
    (refine W.fs (hok) (by simp only [r42, go_sem, seval, reduceCtorEq]; rfl) ?_; simp only [resV]; try exact V.wk.rfl _)
    all_goals (all_goals exact wk_here)
end
section
def c84 : AC := .seq (.reg [.o 3 (.box (.t 0)), .o 4 (.box (.t 1)), .o 6 (.box (.k (.agg [.c (.int .i64 0), .c (.str []), .c (.int .i64 0), .csl []])))]) (.seq (.seq (.reg [.f 12 0 4, .l 13 12, .o 14 (.bin .neq (.t 13) (.k (.c (.int .i64 5)))), .m 15 14, .y 16 (.fadd 0 (.t 4)) 15, .y 17 (.load1 (.t 16)) 15, .y 18 (.bin .neq (.t 17) (.k (.c (.int .i64 6)))) 15, .o 19 (.pick (.t 15) (.t 18) (.k (.c (.bool false))))]) (.cond (.t 19) (.seq (.reg [.f 20 0 3, .l 21 20, .d 22 4 4, .m 23 2, .o 24 (.call (.t 21) [(.t 22), (.t 23)]), .s 4 6 24]) (.ret)) (.skip))) (.seq (.reg [.d 26 4 4, .k 27 170 [(.t 26)], .m 25 27, .x 28 25 0, .x 29 25 1, .m 7 28, .m 8 29]) (.seq (.reg [.o 9 (.mov (.k (.csl [])))]) (.seq (.seq (.reg [.m 30 7, .o 31 (.lenr (.t 30)), .o 32 (.mov (.k (.c (.int .i64 0))))]) (.block 0 (.loop (.seq (.reg [.o 33 (.bin .lss (.t 32) (.t 31))]) (.seq (.cond (.t 33) (.skip) (.exit 0)) (.seq (.block 1 (.seq (.reg [.o 34 (.iadd 4 (.t 30) (.t 32)), .d 35 4 34, .o 11 (.box (.k (.agg [.c (.int .i64 0), .c (.str []), .c (.int .i64 0), .csl []]))), .s 4 11 35]) (.reg [.m 36 9, .d 37 1 3, .d 38 4 11, .m 39 2, .m 40 8, .o 41 (.bin .add (.t 39) (.t 40)), .k 42 84 [(.t 37), (.t 38), (.t 41)], .o 43 (.bsl 4 [(.t 42)]), .o 44 (.app 30 4 56 (.t 36) (.t 43)), .m 9 44]))) (.reg [.o 45 (.bin .add (.t 32) (.k (.c (.int .i64 1)))), .m 32 45]))))))) (.seq (.seq (.reg [.f 46 0 4, .l 47 46, .o 48 (.bin .eql (.t 47) (.k (.c (.int .i64 6)))), .m 49 48, .y 50 (.mov (.t 9)) 49, .y 51 (.lenr (.t 50)) 49, .y 52 (.bin .gtr (.t 51) (.k (.c (.int .i64 1)))) 49, .o 53 (.pick (.t 49) (.t 52) (.k (.c (.bool false)))), .m 54 53, .y 55 (.mov (.t 9)) 54, .y 56 (.iadd 4 (.t 55) (.k (.c (.int .i64 0)))) 54, .y 57 (.fadd 0 (.t 56)) 54, .y 58 (.load1 (.t 57)) 54, .y 59 (.bin .eql (.t 58) (.k (.c (.int .i64 6)))) 54, .o 60 (.pick (.t 54) (.t 59) (.k (.c (.bool false)))), .m 61 60, .y 62 (.mov (.t 7)) 61, .y 63 (.iadd 4 (.t 62) (.k (.c (.int .i64 0)))) 61, .y 64 (.fadd 0 (.t 63)) 61, .y 65 (.load1 (.t 64)) 61, .y 66 (.bin .neq (.t 65) (.k (.c (.int .i64 6)))) 61, .o 67 (.pick (.t 61) (.t 66) (.k (.c (.bool false))))]) (.cond (.t 67) (.seq (.dreg [.m 68 9, .o 69 (.iadd 4 (.t 68) (.k (.c (.int .i64 0)))), .d 70 4 69, .m 71 9, .o 72 (.slr 4 (.t 71) (some (.k (.c (.int .i64 1)))) none none), .k 73 42 [(.t 70), (.t 72)], .s 4 6 73] [.q (.m 68 9), .q (.o 69 (.iadd 4 (.t 68) (.k (.c (.int .i64 0))))), .q (.d 70 4 69), .q (.m 71 9), .q (.o 72 (.slr 4 (.t 71) (some (.k (.c (.int .i64 1)))) none none)), ⟨.k 73 42 [(.t 70), (.t 72)], true, 0⟩, ⟨.s 4 6 73, true, 1⟩]) (.ret)) (.skip))) (.seq (.reg [.f 74 0 4, .l 75 74, .f 76 1 4, .l 77 76, .f 78 2 4, .l 79 78, .m 80 9, .o 81 (.build [.c (.int .i64 0), .c (.str []), .c (.int .i64 0), .csl []] [(0, 1, (.t 75)), (1, 1, (.t 77)), (2, 1, (.t 79)), (3, 1, (.t 80))]), .s 4 6 81]) (.ret)))))))
def r84 : List ResV := [.celln 4 6]
theorem k84 : CodeIs Tryz.prog 84 3 Tryz.f84 c84 r84 := .auto Tryz.func84
def c83 : AC := .seq (.reg [.o 3 (.box (.t 0)), .o 4 (.box (.t 1)), .o 5 (.box (.t 2)), .o 6 (.box (.k (.agg [.c (.int .i64 0), .c (.str []), .c (.int .i64 0), .csl []])))]) (.seq (.reg [.o 7 (.mkfn 172 [(.t 4), (.t 5)]), .o 8 (.build [.nilf] [(0, 1, (.t 7))]), .d 9 4 3, .k 10 84 [(.t 8), (.t 9), (.k (.c (.int .i64 0)))], .s 4 6 10]) (.ret))
def r83 : List ResV := [.celln 4 6]
theorem k83 : CodeIs Tryz.prog 83 3 Tryz.f83 c83 r83 := .auto Tryz.func83
def c172 : AC := .seq (.reg [.o 4 (.box (.t 0)), .o 6 (.box (.k (.agg [.c (.int .i64 0), .c (.str []), .c (.int .i64 0), .csl []])))]) (.seq (.seq (.reg [.f 7 0 4, .l 8 7, .o 9 (.bin .eql (.t 8) (.k (.c (.int .i64 3)))), .m 10 9, .y 11 (.fadd 2 (.t 4)) 10, .y 12 (.load1 (.t 11)) 10, .y 13 (.mov (.t 1)) 10, .y 14 (.load1 (.t 2)) 10, .y 15 (.bin .add (.t 13) (.t 14)) 10, .y 16 (.bin .geq (.t 12) (.t 15)) 10, .o 17 (.pick (.t 10) (.t 16) (.k (.c (.bool false))))]) (.cond (.t 17) (.seq (.reg [.d 18 4 4, .l 19 3, .k 20 173 [(.t 18), (.t 19)], .s 4 6 20]) (.ret)) (.skip))) (.seq (.reg [.d 21 4 4, .s 4 6 21]) (.ret)))
def r172 : List ResV := [.celln 4 6]
theorem k172 : CodeIs Tryz.prog 172 4 Tryz.f172 c172 r172 := .auto Tryz.func172
def c138 : AC := .seq (.reg [.o 3 (.box (.t 0)), .o 4 (.box (.t 1)), .o 5 (.box (.t 2)), .o 6 (.box (.k (.agg [.c (.int .i64 0), .c (.str []), .c (.int .i64 0), .csl []])))]) (.seq (.reg [.o 7 (.mkfn 227 [(.t 4), (.t 5)]), .o 8 (.build [.nilf] [(0, 1, (.t 7))]), .d 9 4 3, .k 10 84 [(.t 8), (.t 9), (.k (.c (.int .i64 0)))], .s 4 6 10]) (.ret))
def r138 : List ResV := [.celln 4 6]
theorem k138 : CodeIs Tryz.prog 138 3 Tryz.f138 c138 r138 := .auto Tryz.func138
def c227 : AC := .seq (.reg [.o 4 (.box (.t 0)), .o 6 (.box (.k (.agg [.c (.int .i64 0), .c (.str []), .c (.int .i64 0), .csl []])))]) (.seq (.block 0 (.seq (.reg [.f 8 0 4, .l 9 8, .o 10 (.bin .neq (.t 9) (.k (.c (.int .i64 3)))), .m 11 10, .z 12 (.fadd 2 (.t 4)) 11, .z 13 (.load1 (.t 12)) 11, .z 14 (.mov (.t 1)) 11, .z 15 (.load1 (.t 2)) 11, .z 16 (.bin .add (.t 14) (.t 15)) 11, .z 17 (.bin .lss (.t 13) (.t 16)) 11, .o 18 (.pick (.t 11) (.k (.c (.bool true))) (.t 17)), .m 7 18]) (.cond (.t 7) (.seq (.reg [.d 19 4 4, .s 4 6 19]) (.ret)) (.seq (.reg [.f 21 2 4, .l 22 21, .m 23 1, .l 24 2, .o 25 (.bin .add (.t 23) (.t 24)), .o 26 (.bin .eql (.t 22) (.t 25)), .m 20 26]) (.cond (.t 20) (.seq (.reg [.d 27 4 3, .m 28 1, .k 29 83 [(.t 27), (.k (.c (.int .i64 0))), (.t 28)], .s 4 6 29]) (.ret)) (.skip)))))) (.seq (.reg [.d 30 4 4, .k 31 173 [(.t 30), (.k (.c (.int .i64 (-1))))], .s 4 6 31]) (.ret)))
def r227 : List ResV := [.celln 4 6]
theorem k227 : CodeIs Tryz.prog 227 4 Tryz.f227 c227 r227 := .auto Tryz.func227
def c173 : AC := .seq (.reg [.o 2 (.box (.t 0)), .o 4 (.box (.k (.agg [.c (.int .i64 0), .c (.str []), .c (.int .i64 0), .csl []])))]) (.seq (.reg [.f 5 2 2, .l 6 5, .m 7 1, .o 8 (.bin .add (.t 6) (.t 7)), .f 9 2 2, .s 1 9 8]) (.seq (.reg [.d 10 4 2, .s 4 4 10]) (.ret)))
def r173 : List ResV := [.celln 4 4]
theorem k173 : CodeIs Tryz.prog 173 2 Tryz.f173 c173 r173 := .auto Tryz.func173
end
section
attribute [local go_sem] Typ.v Typ.cs_eq tk_mk tname_mk tn_mk tl_mk tysC
structure LeafR (w0 : World) (E : H → Prop) (Pp : Typ → Prop) (g : Typ → Int → Typ) (fid : FuncId) (caps : List V) : Prop where
  more : ∀ σ L, E σ → E (σ ++ L)
  low : ∀ σ, E σ → ∀ x ∈ caps, V.low σ.length x
  kid : ∀ u, Pp u → ∀ v ∈ u.l, Pp v
  len : ∀ u, Pp u → u.l.length ≤ 40000
  big : ∀ u, Pp u → ∀ j : Nat, (walkM g (j : Int) u).l.length ≤ 40000
  leaf : ∀ σ, E σ → ∀ u (j : Nat), Pp u → j ≤ 100000 → u.k ≠ 5 → u.k ≠ 6 → DC Tryz.prog w0 fid ([u.v, I (j : Int)] ++ caps) σ (Same (g u (j : Int)).v σ)
theorem walk_term {w0 : World} {E : H → Prop} {Pp : Typ → Prop} {g : Typ → Int → Typ} {fid : FuncId} {caps : List V} (hR : LeafR w0 E Pp g fid caps) (t : Typ) : Pp t → ∀ (k : Nat), k + nodesM t ≤ 100000 → ∀ σ, E σ → DC Tryz.prog w0 84 [.agg [.fn fid caps], t.v, I (k : Int)] σ (Same (walkM g (k : Int) t).v σ) := by
  refine Typ.ind (P := fun t => Pp t → ∀ (k : Nat), k + nodesM t ≤ 100000 → ∀ σ, E σ → DC Tryz.prog w0 84 [.agg [.fn fid caps], t.v, I (k : Int)] σ (Same (walkM g (k : Int) t).v σ)) (fun t ih hp k hk σ hσ => ?_) t
  refine k84.go rfl (fun hok hsz => ?_)
  by_cases hlf : t.k ≠ 5 ∧ t.k ≠ 6
  · have hc := fun L => hR.leaf (σ ++ L) (hR.more _ _ hσ) t k hp (by omega) hlf.1 hlf.2
    rw [walkM_eq, if_neg hlf.1, if_neg hlf.2]
    have k5 : (t.k == 5) = false := by simp [hlf.1]
    have k6 : (t.k == 6) = false := by simp [hlf.2]
    clear hlf
    ((try refine W.a ?_); simp only [go_sem, seval, reduceCtorEq, c84, bne, k5, k6])
    refine W.yes rfl ?_
    ((try refine W.a ?_); simp only [go_sem, seval, reduceCtorEq])
    (refine W.c1 (hc _) ?_; simp only [go_sem, seval, reduceCtorEq])
    ((try refine W.a ?_); simp only [go_sem, seval, reduceCtorEq])
    (refine W.fs (hok) (by simp only [r84, go_sem, seval, reduceCtorEq]; rfl) ?_; simp only [resV]; try exact V.wk.rfl _)
    all_goals (all_goals exact wk_here)
  obtain ⟨B, hB, hwk, hwi⟩ : ∃ B : Nat, B ≤ 1 ∧ walkM g (k : Int) t = withM t (t.l.map (walkM g ((k + B : Nat) : Int))) ∧ ∀ σ, DC Tryz.prog w0 170 [t.v] σ (Same (.tup [.c (tysC t.l), I (B : Int)]) σ) := by
    by_cases h5 : t.k = 5
    · refine ⟨1, Nat.le_refl _, ?_, fun σ => ?_⟩
      · rw [walkM_eq, if_pos h5]; rfl
      · have := term_within w0 t σ
        rwa [if_pos (.inl h5), if_pos h5] at this
    · have h6 : t.k = 6 := by omega
      refine ⟨0, by decide, ?_, fun σ => ?_⟩
      · rw [walkM_eq, if_neg h5, if_pos h6]; rfl
      · have := term_within w0 t σ
        rwa [if_pos (.inr h6), if_neg h5] at this
  rw [hwk]
  clear hwk
  have hlen := hR.len t hp
  obtain ⟨o, ho⟩ : ∃ o, o = t.l.map (walkM g ((k + B : Nat) : Int)) := ⟨_, rfl⟩
  have hol : o.length = t.l.length := by rw [ho, List.length_map]
  have hkids : ∀ i (hi : i < t.l.length) (hi' : i < o.length) L, DC Tryz.prog w0 84 [.agg [.fn fid caps], t.l[i].v, I ((k + B : Nat) : Int)] (σ ++ L) (Same o[i].v (σ ++ L)) := fun i hi hi' L => by
    have hm := List.getElem_mem hi
    have := nodesM_mem hm
    have e : o[i] = walkM g ((k + B : Nat) : Int) t.l[i] := by simp [ho]
    rw [e]
    exact ih _ hm (hR.kid t hp _ hm) (k + B) (by omega) _ (hR.more _ _ hσ)
  have hbig : ∀ u ∈ o, u.l.length ≤ 40000 := fun u hu => by
    rw [ho] at hu
    obtain ⟨v, hv, rfl⟩ := List.mem_map.1 hu
    exact hR.big v (hR.kid t hp v hv) _
  rw [← ho]
  clear ho
  have hw0 : IntKind.i64.wrap ((k : Int) + (B : Int)) = ((k + B : Nat) : Int) := by rw [wrap_in] <;> omega
  have hor : (t.k == 5) = true ∧ (t.k == 6) = false ∨ (t.k == 5) = false ∧ (t.k == 6) = true := by
    by_cases h5 : t.k = 5
    · exact .inl ⟨by simp [h5], by simp [h5]⟩
    · exact .inr ⟨by simp [h5], by simp; omega⟩
  have hfl : ∀ n, σ.length ≤ n → ((∀ x, x ∈ caps → V.low n x) ↔ True) := fun n hn => by
    simp only [iff_true]
    exact fun x hx => V.low_mono hn (hR.low σ hσ x hx)
  have hfl4 := hfl (σ.length + 4) (by omega)
  obtain ⟨z, hz⟩ : ∃ z, z = withM t o := ⟨_, rfl⟩
  rw [← hz]
  have hst : W Tryz.prog w0 σ.length (Lamb.Fin r84 σ.length (Same z.v σ)) [.code c84] ⟨argEnv [.agg [.fn fid caps], t.v, I (k : Int)], σ⟩ := by
    rcases hor with ⟨k5, k6⟩ | ⟨k5, k6⟩
    all_goals clear hlf
    all_goals (
      ((try refine W.a ?_); simp only [go_sem, seval, reduceCtorEq, c84, bne, k5, k6])
      refine W.no rfl ?_
      ((try refine W.a ?_); simp only [go_sem, seval, reduceCtorEq])
      (refine W.c1 (hwi _) ?_; simp only [go_sem, seval, reduceCtorEq])
      ((try refine W.a ?_); simp only [go_sem, seval, reduceCtorEq])
      refine W.own 9 30 4 rfl ?_
      ((try refine W.a ?_); simp only [go_sem, seval, reduceCtorEq])
      refine W.loopP (fun i => i ≤ t.l.length) (fun i => ⟨((((((((((base.put (some 2) (I (k : Int))).put (some 3) (.ptr σ.length 0)).put (some 4) (.ptr (σ.length + 1) 0)).put (some 6) (.ptr (σ.length + 2) 0)).put (some 7) (.c (.sl (t.l.map Typ.cs)))).put (some 8) (I (B : Int))).put (some 9) (.osl (σ.length + 3) ((o.take i).map Typ.cs))).put (some 30) (.c (.sl (t.l.map Typ.cs)))).put (some 31) (I (t.l.length : Int))).put (some 32) (I (i : Int))), σ ++ [.cells [.fn fid caps], .cells t.v.cellsV, .cells [I 0, S [], I 0, .csl []], .spare 30 4 i]⟩) (fun i => t.l.length - i) 0 (Nat.zero_le _) ?_ (fun i hi => ?_)
      · (refine Lew.env ?_; exact lee_here)
      by_cases hlt : i < t.l.length
      · have hlt' : i < o.length := by omega
        have h1 : (i : Int) < (t.l.length : Int) := by omega
        have h0 : (0 : Int) ≤ (i : Int) := by omega
        have hx : t.l[i]? = some t.l[i] := List.getElem?_eq_getElem hlt
        have hw : IntKind.i64.wrap ((i : Int) + 1) = ((i + 1 : Nat) : Int) := by rw [wrap_in] <;> omega
        have hb1 : (i + 1) * 56 ≤ 140737488355328 := by omega
        have hb2 : i ≤ 140737488355327 := by omega
        have hti : (o.take i).length = i := by rw [List.length_take]; omega
        have hts : (o.take (i + 1)).map Typ.cs = (o.take i).map Typ.cs ++ [[.int .i64 o[i].k, .str o[i].name, .int .i64 o[i].n, .sl (o[i].l.map Typ.cs)]] := by
          rw [List.take_succ_eq_append_getElem hlt', List.map_append, List.map_cons, List.map_nil, Typ.cs_eq]
        have hki := fun L => hkids i hlt hlt' L
        ((try refine W.a ?_); simp only [go_sem, seval, reduceCtorEq, h1])
        refine W.yes rfl ?_
        ((try refine W.a ?_); simp only [go_sem, seval, reduceCtorEq, h1, h0, hx, hw0])
        (refine W.c1 (hki _) ?_; simp only [go_sem, seval, reduceCtorEq])
        ((try refine W.a ?_); simp only [go_sem, seval, reduceCtorEq, hb1, hb2, hti, hw])
        refine .inv ⟨i + 1, hlt, by omega, ?_⟩
        simp only [go_sem, seval, reduceCtorEq, hts]
        (refine Lew.cutL (hok) ?_ (by simp) (by simp) ?_ ?_ ?_; exact lee_here; ((try simp only [okB, wkB, go_sem, seval, reduceCtorEq, hfl4]) <;> omega); (simp only [List.length_cons, List.length_nil, Nat.reduceAdd, List.take_succ_cons, List.take_zero, wkB, and_true]; (repeat' (refine And.intro ?_ ?_)) <;> (first | exact Blk.wk.rfl _ | exact Blk.wk.gone _ | (refine Blk.wk_cells ?_ rfl; (exact wk_here)))); (repeat' (first | exact LowE.base _ | (refine LowE.put ?_ (by first | exact .c _ | ((try simp only [okB, wkB, go_sem, seval, reduceCtorEq, hfl4]) <;> omega))))))
      obtain rfl : i = t.l.length := by omega
      have h1 : ¬ ((t.l.length : Nat) : Int) < ((t.l.length : Nat) : Int) := by omega
      have hta : o.take t.l.length = o := by rw [← hol, List.take_length]
      rw [hta]
      ((try refine W.a ?_); simp only [go_sem, seval, reduceCtorEq, h1])
      refine W.no rfl ?_
      skip)
    · have hz' : z = .mk t.k t.name t.n o := by
        rw [hz, withM, if_neg (fun h => by simp [h.1] at k6)]
      subst hz'
      ((try refine W.a ?_); simp only [go_sem, seval, reduceCtorEq, k6])
      refine W.no rfl ?_
      ((try refine W.a ?_); simp only [go_sem, seval, reduceCtorEq])
      (refine W.fs (hok) (by simp only [r84, go_sem, seval, reduceCtorEq]; rfl) ?_; simp only [resV]; try exact V.wk.rfl _)
      all_goals (all_goals exact wk_here)
    · have h6 : t.k = 6 := by simpa using k6
      by_cases c1 : 1 < o.length
      · obtain ⟨o0, o1, rfl⟩ : ∃ a l, o = a :: l := by
          cases o with
          | nil => simp at c1
          | cons a l => exact ⟨a, l, rfl⟩
        have hl0 : 0 < t.l.length := by omega
        have hx : t.l[0]? = some t.l[0] := List.getElem?_eq_getElem hl0
        have hhd : (t.l.headD .none) = t.l[0] := by
          rw [List.headD_eq_head?_getD, List.head?_eq_getElem?, hx]; rfl
        have q1 : ((o1.length + 1 : Nat) : Int) > 1 := by simp at c1; omega
        have h00 : (0 : Int) < ((o1.length + 1 : Nat) : Int) := by omega
        have hl00 : (0 : Int) < (t.l.length : Int) := by omega
        by_cases c2 : o0.k = 6
        · have p2 : (o0.k == 6) = true := by simp [c2]
          by_cases c3 : t.l[0].k = 6
          · have p3 : (t.l[0].k == 6) = true := by simp [c3]
            have hz' : z = .mk t.k t.name t.n (o0 :: o1) := by
              rw [hz, withM, if_neg (fun h => h.2.2.2 (by rw [hhd]; exact c3))]
            subst hz'
            clear c3 c2 h6 hhd hz
            ((try refine W.a ?_); simp only [go_sem, seval, reduceCtorEq, k6, q1, p2, p3, hx, nat0, bne, h00, hl00])
            refine W.no rfl ?_
            ((try refine W.a ?_); simp only [go_sem, seval, reduceCtorEq])
            (refine W.fs (hok) (by simp only [r84, go_sem, seval, reduceCtorEq]; rfl) ?_; simp only [resV]; try exact V.wk.rfl _)
            all_goals (all_goals exact wk_here)
          · have p3 : (t.l[0].k == 6) = false := by simp [c3]
            have hz' : z = applyM o0 o1 := by
              rw [hz, withM, if_pos ⟨h6, c1, c2, by rw [hhd]; exact c3⟩]; rfl
            have hb := hbig o0 (List.mem_cons_self ..)
            have hA := fun σ => term_Apply w0 o0 o1 (by simp at hol; omega) σ
            rw [← hz'] at hA
            clear c3 c2 h6 hhd hz hz'
            have hrw : (∀ (x : List C), x ∈ List.map Typ.cs o1 → x.length = 4) ↔ True := by
              simp only [List.mem_map, iff_true]
              rintro x ⟨u, _, rfl⟩
              rw [Typ.cs_eq]; rfl
            have hge : (1 : Int) ≤ ((o1.length + 1 : Nat) : Int) := by omega
            have htk2 : List.take o1.length (List.map Typ.cs o1) = List.map Typ.cs o1 := List.take_of_length_le (by simp)
            ((try refine W.a ?_); simp only [go_sem, seval, reduceCtorEq, k6, q1, p2, p3, hx, nat0, bne, h00, hl00])
            refine W.yes rfl ?_
            ((try refine W.a ?_); simp only [go_sem, seval, reduceCtorEq])
            apply W.dregE (List.cons_ne_nil _ _)
            case hc =>
              (apply CanonE.advPO; simp only [go_sem, seval, reduceCtorEq, nat0, h00, hrw, hge, htk2])
              (apply CanonE.call (hA _); (case hg => rfl); (case hf => rfl); (case ha => first | rfl | simp))
              (apply CanonE.advPO; simp only [go_sem, seval, reduceCtorEq])
              exact CanonE.nil
            ((try refine W.a ?_); simp only [go_sem, seval, reduceCtorEq])
            (refine W.fs (hok) (by simp only [r84, go_sem, seval, reduceCtorEq]; rfl) ?_; simp only [resV]; try exact V.wk.rfl _)
            all_goals (all_goals exact wk_here)
        · have p2 : (o0.k == 6) = false := by simp [c2]
          have hz' : z = .mk t.k t.name t.n (o0 :: o1) := by
            rw [hz, withM, if_neg (fun h => c2 h.2.2.1)]
          subst hz'
          clear c2 h6 hhd hz
          ((try refine W.a ?_); simp only [go_sem, seval, reduceCtorEq, k6, q1, p2, nat0, bne, h00, hl00])
          refine W.no rfl ?_
          ((try refine W.a ?_); simp only [go_sem, seval, reduceCtorEq])
          (refine W.fs (hok) (by simp only [r84, go_sem, seval, reduceCtorEq]; rfl) ?_; simp only [resV]; try exact V.wk.rfl _)
          all_goals (all_goals exact wk_here)
      · have q1 : ¬ ((o.length : Nat) : Int) > 1 := by omega
        have hz' : z = .mk t.k t.name t.n o := by
          rw [hz, withM, if_neg (fun h => c1 h.2.1)]
        subst hz'
        clear h6 hz
        ((try refine W.a ?_); simp only [go_sem, seval, reduceCtorEq, k6, q1, bne])
        refine W.no rfl ?_
        ((try refine W.a ?_); simp only [go_sem, seval, reduceCtorEq])
        (refine W.fs (hok) (by simp only [r84, go_sem, seval, reduceCtorEq]; rfl) ?_; simp only [resV]; try exact V.wk.rfl _)
        all_goals (all_goals exact wk_here)
  exact hst
end
section
attribute [local go_sem] Typ.v Typ.cs_eq tk_mk tname_mk tn_mk tl_mk tysC
theorem term_moved (w0 : World) (t : Typ) (b : Int) (h1 : -9223372036854775808 ≤ t.n + b) (h2 : t.n + b ≤ 9223372036854775807) (σ : H) : DC Tryz.prog w0 173 [t.v, I b] σ (Same (Typ.mk t.k t.name (t.n + b) t.l).v σ) := by
  refine k173.go rfl (fun hok hsz => ?_)
  have hw : IntKind.i64.wrap (t.n + b) = t.n + b := by rw [wrap_in] <;> omega
  ((try refine W.a ?_); simp only [go_sem, seval, reduceCtorEq, c173, hw])
  (refine W.fs (hok) (by simp only [r173, go_sem, seval, reduceCtorEq]; rfl) ?_; simp only [resV]; try exact V.wk.rfl _)
  all_goals (all_goals exact wk_here)
theorem shift_leaf (w0 : World) (a b : Int) (ha : 0 ≤ a) (ha' : a ≤ 100000) (hb : -1152921504606846976 ≤ b) (hb' : b ≤ 1152921504606846976) (p : Nat) (σ : H) (e1 : σ[p]? = some (.cells [I a])) (e2 : σ[p + 1]? = some (.cells [I b])) (u : Typ) (j : Nat) (hj : j ≤ 100000) (hu : u.k = 3 → -2305843009213693952 ≤ u.n ∧ u.n ≤ 2305843009213693952) :
    DC Tryz.prog w0 172 [u.v, I (j : Int), .ptr p 0, .ptr (p + 1) 0] σ (Same (shiftF a b u (j : Int)).v σ) := by
  refine k172.go rfl (fun hok hsz => ?_)
  have e1 : ∀ L, (σ ++ L)[p]? = some (.cells [I a]) := fun L => by rw [List.getElem?_append_left (List.getElem?_eq_some_iff.1 e1).1]; exact e1
  have e2 : ∀ L, (σ ++ L)[p + 1]? = some (.cells [I b]) := fun L => by rw [List.getElem?_append_left (List.getElem?_eq_some_iff.1 e2).1]; exact e2
  have hw : IntKind.i64.wrap ((j : Int) + a) = (j : Int) + a := by rw [wrap_in] <;> omega
  by_cases h3 : u.k = 3
  · have k3 : (u.k == 3) = true := by simp [h3]
    have hu := hu h3
    by_cases hge : u.n ≥ (j : Int) + a
    · have hE : shiftF a b u (j : Int) = .mk u.k u.name (u.n + b) u.l := by unfold shiftF; rw [if_pos ⟨h3, hge⟩]
      have hM := fun σ => term_moved w0 u b (by omega) (by omega) σ
      rw [hE]
      clear h3 hE
      ((try refine W.a ?_); simp only [go_sem, seval, reduceCtorEq, c172, k3, e1, e2, hw, hge])
      refine W.yes rfl ?_
      ((try refine W.a ?_); simp only [go_sem, seval, reduceCtorEq, e1, e2])
      (refine W.c1 (hM _) ?_; simp only [go_sem, seval, reduceCtorEq])
      ((try refine W.a ?_); simp only [go_sem, seval, reduceCtorEq])
      (refine W.fs (hok) (by simp only [r172, go_sem, seval, reduceCtorEq]; rfl) ?_; simp only [resV]; try exact V.wk.rfl _)
      all_goals (all_goals exact wk_here)
    · have hE : shiftF a b u (j : Int) = u := by unfold shiftF; rw [if_neg (fun h => hge h.2)]
      rw [hE]
      clear h3 hE
      ((try refine W.a ?_); simp only [go_sem, seval, reduceCtorEq, c172, k3, e1, e2, hw, hge])
      refine W.no rfl ?_
      ((try refine W.a ?_); simp only [go_sem, seval, reduceCtorEq])
      (refine W.fs (hok) (by simp only [r172, go_sem, seval, reduceCtorEq]; rfl) ?_; simp only [resV]; try exact V.wk.rfl _)
      all_goals (all_goals exact wk_here)
  · have hE : shiftF a b u (j : Int) = u := by unfold shiftF; rw [if_neg (fun h => h3 h.1)]
    have k3 : (u.k == 3) = false := by simp [h3]
    rw [hE]
    clear h3 hE
    ((try refine W.a ?_); simp only [go_sem, seval, reduceCtorEq, c172, k3])
    refine W.no rfl ?_
    ((try refine W.a ?_); simp only [go_sem, seval, reduceCtorEq])
    (refine W.fs (hok) (by simp only [r172, go_sem, seval, reduceCtorEq]; rfl) ?_; simp only [resV]; try exact V.wk.rfl _)
    all_goals (all_goals exact wk_here)
theorem shift_R (w0 : World) (a b : Int) (ha : 0 ≤ a) (ha' : a ≤ 100000) (hb : -1152921504606846976 ≤ b) (hb' : b ≤ 1152921504606846976) (p : Nat) :
    LeafR w0 (fun σ => σ[p]? = some (.cells [I a]) ∧ σ[p + 1]? = some (.cells [I b])) (fun u => nearM 2305843009213693952 u = true ∧ nodesM u ≤ 40000) (shiftF a b) 172 [.ptr p 0, .ptr (p + 1) 0] where
  more := fun σ L ⟨e1, e2⟩ => ⟨by rw [List.getElem?_append_left (List.getElem?_eq_some_iff.1 e1).1]; exact e1, by rw [List.getElem?_append_left (List.getElem?_eq_some_iff.1 e2).1]; exact e2⟩
  low := fun σ ⟨e1, e2⟩ x hx => by
    have h1 := (List.getElem?_eq_some_iff.1 e1).1
    have h2 := (List.getElem?_eq_some_iff.1 e2).1
    simp only [List.mem_cons, List.not_mem_nil, or_false] at hx
    rcases hx with rfl | rfl
    · exact .ptr h1
    · exact .ptr h2
  kid := fun u ⟨h1, h2⟩ v hv => ⟨near_kids h1 v hv, by have := nodesM_mem hv; omega⟩
  len := fun u ⟨_, h2⟩ => Nat.le_trans (kids_nodes u) h2
  big := fun u ⟨_, h2⟩ j => by
    have h1 := nodesM_walk (g := shiftF a b) (C := 1) (Nat.le_refl _) (fun v i _ _ => by
      unfold shiftF
      split
      · rw [nodesM_mk, nodesM_eq v]; omega
      · omega) u j
    have := kids_nodes (walkM (shiftF a b) (j : Int) u)
    omega
  leaf := fun σ ⟨e1, e2⟩ u j ⟨h1, _⟩ hj _ _ => shift_leaf w0 a b ha ha' hb hb' p σ e1 e2 u j hj (fun h3 => near_node h1 (by omega))
theorem term_Shift (w0 : World) (t : Typ) (a b : Int) (ha : 0 ≤ a) (ha' : a ≤ 100000) (hb : -1152921504606846976 ≤ b) (hb' : b ≤ 1152921504606846976) (hnr : nearM 2305843009213693952 t = true) (hn : nodesM t ≤ 40000) (σ : H) : DC Tryz.prog w0 83 [t.v, I a, I b] σ (Same (shiftM a b t).v σ) := by
  refine k83.go rfl (fun hok hsz => ?_)
  have hw := walk_term (shift_R w0 a b ha ha' hb hb' (σ.length + 1)) t ⟨hnr, hn⟩ 0 (by omega) (σ ++ [.cells t.v.cellsV, .cells [I a], .cells [I b], .cells [I 0, S [], I 0, .csl []]]) ⟨by simp, by rw [Nat.add_assoc]; simp⟩
  have hz : shiftM a b t = walkM (shiftF a b) ((0 : Nat) : Int) t := rfl
  rw [hz]
  generalize walkM (shiftF a b) ((0 : Nat) : Int) t = z at *
  ((try refine W.a ?_); simp only [go_sem, seval, reduceCtorEq, c83])
  (refine W.c1 (hw) ?_; simp only [go_sem, seval, reduceCtorEq])
  ((try refine W.a ?_); simp only [go_sem, seval, reduceCtorEq])
  (refine W.fs (hok) (by simp only [r83, go_sem, seval, reduceCtorEq]; rfl) ?_; simp only [resV]; try exact V.wk.rfl _)
  all_goals (all_goals exact wk_here)
theorem subst_leaf (w0 : World) (i : Int) (s : Typ) (hi : 0 ≤ i) (hi' : i ≤ 100000) (hsn : nearM 2305843009213693952 s = true) (hss : nodesM s ≤ 40000) (p : Nat) (σ : H) (e1 : σ[p]? = some (.cells [I i])) (e2 : σ[p + 1]? = some (.cells s.v.cellsV)) (u : Typ) (j : Nat) (hj : j ≤ 100000) (hu : u.k = 3 → -2305843009213693952 ≤ u.n ∧ u.n ≤ 2305843009213693952) :
    DC Tryz.prog w0 227 [u.v, I (j : Int), .ptr p 0, .ptr (p + 1) 0] σ (Same (substF i s u (j : Int)).v σ) := by
  refine k227.go rfl (fun hok hsz => ?_)
  have e1 : ∀ L, (σ ++ L)[p]? = some (.cells [I i]) := fun L => by rw [List.getElem?_append_left (List.getElem?_eq_some_iff.1 e1).1]; exact e1
  have e2 : ∀ L, (σ ++ L)[p + 1]? = some (.cells [I s.k, S s.name, I s.n, .c (.sl (s.l.map Typ.cs))]) := fun L => by rw [List.getElem?_append_left (List.getElem?_eq_some_iff.1 e2).1]; exact e2
  have hw : IntKind.i64.wrap ((j : Int) + i) = (j : Int) + i := by rw [wrap_in] <;> omega
  by_cases h3 : u.k = 3
  · have k3 : (u.k == 3) = true := by simp [h3]
    have hu := hu h3
    by_cases hlt : u.n < (j : Int) + i
    · have hE : substF i s u (j : Int) = u := by unfold substF; rw [if_pos (.inr hlt)]
      rw [hE]
      clear h3 hE
      ((try refine W.a ?_); simp only [go_sem, seval, reduceCtorEq, c227, k3, bne, e1, e2, hw, hlt])
      refine W.yes rfl ?_
      ((try refine W.a ?_); simp only [go_sem, seval, reduceCtorEq])
      (refine W.fs (hok) (by simp only [r227, go_sem, seval, reduceCtorEq]; rfl) ?_; simp only [resV]; try exact V.wk.rfl _)
      all_goals (all_goals exact wk_here)
    · by_cases heq : u.n = (j : Int) + i
      · have hE : substF i s u (j : Int) = shiftM 0 (j : Int) s := by unfold substF; rw [if_neg (by omega), if_pos heq]
        have hS := fun σ => term_Shift w0 s 0 (j : Int) (by decide) (by decide) (by omega) (by omega) hsn hss σ
        have q : (u.n == (j : Int) + i) = true := by simp [heq]
        rw [hE]
        generalize shiftM 0 (j : Int) s = z at *
        clear h3 hE heq
        ((try refine W.a ?_); simp only [go_sem, seval, reduceCtorEq, c227, k3, bne, e1, e2, hw, hlt])
        refine W.no rfl ?_
        ((try refine W.a ?_); simp only [go_sem, seval, reduceCtorEq, e1, e2, hw, q])
        refine W.yes rfl ?_
        ((try refine W.a ?_); simp only [go_sem, seval, reduceCtorEq, e1, e2])
        (refine W.c1 (hS _) ?_; simp only [go_sem, seval, reduceCtorEq])
        ((try refine W.a ?_); simp only [go_sem, seval, reduceCtorEq])
        (refine W.fs (hok) (by simp only [r227, go_sem, seval, reduceCtorEq]; rfl) ?_; simp only [resV]; try exact V.wk.rfl _)
        all_goals (all_goals exact wk_here)
      · have hE : substF i s u (j : Int) = .mk u.k u.name (u.n + -1) u.l := by unfold substF; rw [if_neg (by omega), if_neg heq]; rfl
        have hM := fun σ => term_moved w0 u (-1) (by omega) (by omega) σ
        have q : (u.n == (j : Int) + i) = false := by simp [heq]
        rw [hE]
        clear h3 hE heq
        ((try refine W.a ?_); simp only [go_sem, seval, reduceCtorEq, c227, k3, bne, e1, e2, hw, hlt])
        refine W.no rfl ?_
        ((try refine W.a ?_); simp only [go_sem, seval, reduceCtorEq, e1, e2, hw, q])
        refine W.no rfl ?_
        ((try refine W.a ?_); simp only [go_sem, seval, reduceCtorEq, e1, e2])
        (refine W.c1 (hM _) ?_; simp only [go_sem, seval, reduceCtorEq])
        ((try refine W.a ?_); simp only [go_sem, seval, reduceCtorEq])
        (refine W.fs (hok) (by simp only [r227, go_sem, seval, reduceCtorEq]; rfl) ?_; simp only [resV]; try exact V.wk.rfl _)
        all_goals (all_goals exact wk_here)
  · have hE : substF i s u (j : Int) = u := by unfold substF; rw [if_pos (.inl h3)]
    have k3 : (u.k == 3) = false := by simp [h3]
    rw [hE]
    clear h3 hE
    ((try refine W.a ?_); simp only [go_sem, seval, reduceCtorEq, c227, k3, bne])
    refine W.yes rfl ?_
    ((try refine W.a ?_); simp only [go_sem, seval, reduceCtorEq])
    (refine W.fs (hok) (by simp only [r227, go_sem, seval, reduceCtorEq]; rfl) ?_; simp only [resV]; try exact V.wk.rfl _)
    all_goals (all_goals exact wk_here)
theorem subst_R (w0 : World) (i : Int) (s : Typ) (hi : 0 ≤ i) (hi' : i ≤ 100000) (hsn : nearM 2305843009213693952 s = true) (hss : nodesM s ≤ 40000) (p : Nat) :
    LeafR w0 (fun σ => σ[p]? = some (.cells [I i]) ∧ σ[p + 1]? = some (.cells s.v.cellsV)) (fun u => nearM 2305843009213693952 u = true ∧ nodesM u ≤ 40000 ∧ nodesM s * nodesM u ≤ 40000) (substF i s) 227 [.ptr p 0, .ptr (p + 1) 0] where
  more := fun σ L ⟨e1, e2⟩ => ⟨by rw [List.getElem?_append_left (List.getElem?_eq_some_iff.1 e1).1]; exact e1, by rw [List.getElem?_append_left (List.getElem?_eq_some_iff.1 e2).1]; exact e2⟩
  low := fun σ ⟨e1, e2⟩ x hx => by
    have h1 := (List.getElem?_eq_some_iff.1 e1).1
    have h2 := (List.getElem?_eq_some_iff.1 e2).1
    simp only [List.mem_cons, List.not_mem_nil, or_false] at hx
    rcases hx with rfl | rfl
    · exact .ptr h1
    · exact .ptr h2
  kid := fun u ⟨h1, h2, h3⟩ v hv => ⟨near_kids h1 v hv, by have := nodesM_mem hv; omega, Nat.le_trans (Nat.mul_le_mul_left _ (Nat.le_of_lt (nodesM_mem hv))) h3⟩
  len := fun u ⟨_, h2, _⟩ => Nat.le_trans (kids_nodes u) h2
  big := fun u ⟨_, _, h3⟩ j => Nat.le_trans (kids_nodes _) (Nat.le_trans (subst_nodes i s u j) h3)
  leaf := fun σ ⟨e1, e2⟩ u j ⟨h1, _⟩ hj _ _ => subst_leaf w0 i s hi hi' hsn hss p σ e1 e2 u j hj (fun h3 => near_node h1 (by omega))
theorem term_Subst (w0 : World) (t : Typ) (i : Int) (s : Typ) (hi : 0 ≤ i) (hi' : i ≤ 100000) (hsn : nearM 2305843009213693952 s = true) (hss : nodesM s ≤ 40000) (hnr : nearM 2305843009213693952 t = true) (hn : nodesM t ≤ 40000) (hm : nodesM s * nodesM t ≤ 40000) (σ : H) : DC Tryz.prog w0 138 [t.v, I i, s.v] σ (Same (substM i s t).v σ) := by
  refine k138.go rfl (fun hok hsz => ?_)
  have hw := walk_term (subst_R w0 i s hi hi' hsn hss (σ.length + 1)) t ⟨hnr, hn, hm⟩ 0 (by omega) (σ ++ [.cells t.v.cellsV, .cells [I i], .cells s.v.cellsV, .cells [I 0, S [], I 0, .csl []]]) ⟨by simp, by rw [Nat.add_assoc]; simp⟩
  have hz : substM i s t = walkM (substF i s) ((0 : Nat) : Int) t := rfl
  rw [hz]
  generalize walkM (substF i s) ((0 : Nat) : Int) t = z at *
  ((try refine W.a ?_); simp only [go_sem, seval, reduceCtorEq, c138])
  (refine W.c1 (hw) ?_; simp only [go_sem, seval, reduceCtorEq])
  ((try refine W.a ?_); simp only [go_sem, seval, reduceCtorEq])
  (refine W.fs (hok) (by simp only [r138, go_sem, seval, reduceCtorEq]; rfl) ?_; simp only [resV]; try exact V.wk.rfl _)
  all_goals (all_goals exact wk_here)
end
section
attribute [local go_sem] Typ.v Typ.cs_eq tk_mk tname_mk tn_mk tl_mk
def cOpenBody : AC := .block 1 (.dreg [⟨some 10, .loadn 4 (.t 2), none⟩, ⟨some 11, .loadn 4 (.t 5), none⟩, ⟨some 12, .mov (.t 4), none⟩, ⟨some 13, .call (.k (.fn 83 [])) [(.t 11), (.k (.c (.int .i64 0))), (.t 12)], none⟩, ⟨some 14, .call (.k (.fn 138 [])) [(.t 10), (.k (.c (.int .i64 0))), (.t 13)], none⟩, ⟨none, .store 4 (.t 2) (.t 14), none⟩]
    [⟨⟨some 11, .loadn 4 (.t 5), none⟩, false, 0⟩, ⟨⟨some 12, .mov (.t 4), none⟩, false, 0⟩, ⟨⟨some 13, .call (.k (.fn 83 [])) [(.t 11), (.k (.c (.int .i64 0))), (.t 12)], none⟩, true, 0⟩, ⟨⟨some 10, .loadn 4 (.t 2), none⟩, false, 0⟩, ⟨⟨some 14, .call (.k (.fn 138 [])) [(.t 10), (.k (.c (.int .i64 0))), (.t 13)], none⟩, true, 1⟩, ⟨⟨none, .store 4 (.t 2) (.t 14), none⟩, true, 2⟩])
theorem open_body (w0 : World) (σ : H) (z u : Typ) (i : Nat) (hi : i ≤ 100000) (c : Blk) (hz : nearM 2305843009213693952 z = true) (hu : nearM 2305843009213693952 u = true) (hsu : nearM 2305843009213693952 (shiftM 0 (i : Int) u) = true) (nu : nodesM u ≤ 40000) (nz : nodesM z ≤ 40000) (nm : nodesM u * nodesM z ≤ 40000) :
    W Tryz.prog w0 (σ.length + 2) (fun _ => False) [.code cOpenBody, .inv (fun s' => s'.σ = σ ++ [.cells (substM 0 (shiftM 0 (i : Int) u) z).v.cellsV, c])] ⟨(((base.put (some 2) (.ptr σ.length 0)).put (some 4) (I (i : Int))).put (some 5) (.c (.ref [.int .i64 u.k, .str u.name, .int .i64 u.n, .sl (u.l.map Typ.cs)] 0))), σ ++ [.cells z.v.cellsV, c]⟩ := by
  have hS := fun σ => term_Shift w0 u 0 (i : Int) (by decide) (by decide) (by omega) (by omega) hu nu σ
  have hsn : nodesM (shiftM 0 (i : Int) u) ≤ nodesM u := shift_nodes 0 i u 0
  have hT := fun σ => term_Subst w0 z 0 (shiftM 0 (i : Int) u) (by decide) (by decide) hsu (by omega) hz nz (Nat.le_trans (Nat.mul_le_mul_right _ hsn) nm) σ
  generalize shiftM 0 (i : Int) u = v at *
  generalize substM 0 v z = y at *
  ((try refine W.a ?_); simp only [go_sem, seval, reduceCtorEq, cOpenBody])
  apply W.dregE (List.cons_ne_nil _ _)
  case hc =>
    (apply CanonE.advPO; simp only [go_sem, seval, reduceCtorEq])
    (apply CanonE.call (hS _); (case hg => rfl); (case hf => rfl); (case ha => first | rfl | simp))
    (apply CanonE.advPO; simp only [go_sem, seval, reduceCtorEq])
    (apply CanonE.call (hT _); (case hg => rfl); (case hf => rfl); (case ha => first | rfl | simp))
    (apply CanonE.advPO; simp only [go_sem, seval, reduceCtorEq])
    exact CanonE.nil
  ((try refine W.a ?_); simp only [go_sem, seval, reduceCtorEq])
  exact .inv rfl
end
end Go.Proofs.YtpcmcfajfnpjeaaGreatDoor
namespace Go.Proofs.YtpcmcfajfnpjeaaGreatDoor
open Go.RowKit Go.Shelf Go.Lamb
attribute [local go_sem] Oper.semAt_some

def KpC (Bs b off len : Nat) (A B : World) : Prop := (∀ v, A.cell? ⟨Bs, 0, none⟩ = some v → B.cell? ⟨Bs, 0, none⟩ = some v) ∧ ∀ j, j < len * 4 → ∀ v, A.cell? ⟨b, off + j, none⟩ = some v → B.cell? ⟨b, off + j, none⟩ = some v
theorem KpC.refl (Bs b off len : Nat) (A : World) : KpC Bs b off len A A := ⟨fun _ h => h, fun _ _ _ h => h⟩
theorem KpC.trans {Bs b off len : Nat} {A B C : World} (h : KpC Bs b off len A B) (k : KpC Bs b off len B C) : KpC Bs b off len A C := ⟨fun v e => k.1 v (h.1 v e), fun j hj v e => k.2 j hj v (h.2 j hj v e)⟩
theorem KpC.turn {Bs b off len : Nat} (W : World) (l : Nat) (o o' : Obj) (h : W.heap[l]? = some o) (hc : o.isCells = false) : KpC Bs b off len W (W.putObj l o') :=
  ⟨fun v e => cell_kept e (grownBy_putObj' W l o') (fun r e => by cases e; exact ⟨o, h, hc⟩), fun j _ v e => cell_kept e (grownBy_putObj' W l o') (fun r e => by cases e; exact ⟨o, h, hc⟩)⟩
set_option maxRecDepth 100000 in
set_option maxHeartbeats 2000000 in
theorem back1_inT (F : Fence) (n : Nat) (hf : F.fn 226) (hro : F.round = none) (hn : 1 ≤ n) (l Bs n₀ b off len cap : Nat) (A : Option Addr) (hA : 0 < len → A = some ⟨b, off, none⟩) (xs : Nat → Value) (hreach : len ≤ 1000000) (hb : 0 < len → b < n₀) (J Jx : List (Fin len) → World → Prop)
    (hY : ∀ pre (x : Fin len) W, J pre W → pre.length < len → YieldAt F (n - 1) Tryz.prog l #[.int .i64 (x.1 : Nat), cellsOf4 xs x.1] W fun e W' =>
      (e = .returned (.bool true) ∧ J (pre ++ [x]) W' ∧ KpC Bs b off len W W') ∨ (e = .returned (.bool false) ∧ Jx (pre ++ [x]) W'))
    (W : World) (hBs : W.cell? ⟨Bs, 0, none⟩ = some (.slice A len cap)) (hc : ∀ j, j < len * 4 → W.cell? ⟨b, off + j, none⟩ = some (xs j)) (h0 : J [] W) :
    CallsIn F n Tryz.prog 226 #[.func (.yield l) #[] #[], .pointer (some ⟨Bs, 0, none⟩)] W fun e W' => (∃ v, e = .returned v) ∧
      ((∃ ys, ys.map Fin.val = downTo len len ∧ J ys W') ∨ (∃ pre, True ∧ Jx pre W')) := by
  have hw0 : IntKind.i64.wrap ((len : Int) - 1) = (len : Int) - 1 := wrap_in (by omega) (by omega)
  refine callsIn_of_wp Tryz.func226 rfl hf ?_ hro
  simp only [Tryz.ntmps226, List.size_toArray, List.length_cons, List.length_nil, Nat.reduceAdd, Nat.reduceSub, Array.replicate_succ, Array.replicate_zero, List.push_toArray, List.append_toArray, List.nil_append, List.cons_append]
  gi_wp2
  gi_loopw [3] (fun i wr => ∃ (k : Nat) (pre : List (Fin len)), k ≤ len ∧ i = .int .i64 ((len : Int) - 1 - k) ∧ pre.map Fin.val = downTo len k ∧ J pre wr ∧ KpC Bs b off len W wr)
    (fun i _ => (intOf i + 1).toNat)
  case atStart => exact ⟨0, [], Nat.zero_le _, by simp [hw0], rfl, h0, KpC.refl _ _ _ _ _⟩
  case round =>
    obtain ⟨k, pre, hk, rfl, hpre, hJs, hnx⟩ := hrel
    have hBx := hnx.1 _ hBs
    by_cases hlt : k < len
    · have hcx : ∀ j, j < len * 4 → wr.cell? ⟨b, off + j, none⟩ = some (xs j) := fun j h => hnx.2 j h _ (hc j h)
      obtain ⟨m, hm, hmm⟩ : ∃ m, m < len ∧ len - 1 - k = m := ⟨_, by omega, rfl⟩
      obtain ⟨fn, tmps, assign, body, hy, hR⟩ := hY _ ⟨m, hm⟩ wr hJs (by rw [← List.length_map (f := Fin.val), hpre, downTo_length]; exact hlt)
      have e : (len : Int) - 1 - k = (m : Int) := by omega
      have hpre' : (pre ++ [(⟨m, hm⟩ : Fin len)]).map Fin.val = downTo len (k + 1) := by rw [List.map_append, hpre, downTo_succ, hmm]; rfl
      obtain rfl := hA (by omega)
      rw [e]
      have c0 := hcx (m * 4) (by omega)
      have c1 := hcx (m * 4 + 1) (by omega)
      have c2 := hcx (m * 4 + 2) (by omega)
      have c3 := hcx (m * 4 + 3) (by omega)
      rw [← Nat.add_assoc] at c1 c2 c3
      unfold cellsOf4 at hy
      dsimp only at hy
      gi_wp2
      refine hR.mono ?_
      rintro e W3 (⟨rfl, hJ3, hk3⟩ | ⟨rfl, hJx3⟩)
      · gi_wp2
        go_roundw
        case rel => exact ⟨k + 1, _, by omega, by simp only [Value.int.injEq, true_and]; omega, hpre', hJ3, hnx.trans hk3⟩
        case measure => simp [intOf]
      · gi_wp2
        refine bodyPost_ret (results_none rfl _ _ _) rfl ?_
        exact ⟨⟨_, rfl⟩, .inr ⟨_, trivial, hJx3⟩⟩
    · obtain rfl : k = len := by omega
      have e : (k : Int) - 1 - k = -1 := by omega
      rw [e]
      gi_wp2
      go_end0
      exact ⟨⟨_, rfl⟩, .inl ⟨_, hpre, hJs⟩⟩
set_option maxHeartbeats 1000000 in
theorem back_inT (F : Fence) (n : Nat) (hf : F.fn 137) (hro : F.round = none) (a : Option Addr) (len cap : Nat) (w : World) :
    CallsIn F n Tryz.prog 137 #[.slice a len cap] w fun e w' => e = .returned (.func (.func 226) #[] #[.pointer (some ⟨w.heap.size, 0, none⟩)]) ∧ w' = w.alloc (.cells #[.slice a len cap] 28) := by
  refine callsIn_of_wp Tryz.func137 rfl hf ?_ hro
  simp only [Tryz.ntmps137, List.size_toArray, List.length_cons, List.length_nil, Nat.reduceAdd, Nat.reduceSub, Array.replicate_succ, Array.replicate_zero, List.push_toArray, List.append_toArray, List.nil_append, List.cons_append]
  gi_wp2
  go_ret
  exact ⟨rfl, rfl⟩
theorem back_stopsT (F : Fence) (n : Nat) (hf : F.fn 226) (hro : F.round = none) (hn : 1 ≤ n) (Bs n₀ b off len cap : Nat) (A : Option Addr) (hA : 0 < len → A = some ⟨b, off, none⟩) (xs : Nat → Value) (hreach : len ≤ 1000000) (hb : 0 < len → b < n₀) (w : World) (hBw : Bs < w.heap.size) (hn₀ : n₀ ≤ w.heap.size)
    (hBs : w.cell? ⟨Bs, 0, none⟩ = some (.slice A len cap)) (hc : ∀ j, j < len * 4 → w.cell? ⟨b, off + j, none⟩ = some (xs j)) :
    SeqStopsK F n Tryz.prog 226 #[.pointer (some ⟨Bs, 0, none⟩)] (fun x : Fin len => #[.int .i64 (x.1 : Nat), cellsOf4 xs x.1]) (KpC Bs b off len) (fun ys => ys.map Fin.val = downTo len len) (fun _ => True) len w := fun l J Jx W hW _ _ hY h0 => by
  refine back1_inT F n hf hro hn l Bs n₀ b off len cap A hA xs hreach hb J Jx hY W ((hW.cell (p := ⟨Bs, 0, none⟩) hBw).trans hBs) (fun j hj => ?_) h0
  have hb' := hb (by omega)
  exact (hW.cell (p := ⟨b, off + j, none⟩) (by show b < _; omega)).trans (hc j hj)
end Go.Proofs.YtpcmcfajfnpjeaaGreatDoor
namespace Go.Lamb
open Go Go.RowKit
def openI (i : Nat) : List Typ → Typ → Typ
  | [], t => t
  | u :: l, t => substM 0 (shiftM 0 i u) (openI (i + 1) l t)
end Go.Lamb
namespace Go.Proofs.YtpcmcfajfnpjeaaGreatDoor
open Go.RowKit Go.Shelf Go.Lamb
attribute [local go_sem] Oper.semAt_some
def ZSt (us : List Typ) (z0 : Typ) (pre : List (_root_.Fin us.length)) (z : Typ) : Prop := z = pre.foldl (fun z x => substM 0 (shiftM 0 (x.1 : Nat) us[x]) z) z0
def opC (z : Typ) : H := [.cells [I z.k, S z.name, I z.n, .c (tysC z.l)], .cells [I 0, S [], I 0, .csl []]]
def OpI (w0 : World) (κ : K) (σ : H) (w : World) (us : List Typ) (z0 : Typ) (pre : List (_root_.Fin us.length)) (W : World) : Prop :=
  ∃ κ1 z, Rep w0 κ1 (σ ++ opC z) W ∧ κ.le κ1 ∧ κ1.pos σ.length = w.heap.size ∧ κ1.pos (σ.length + 1) = w.heap.size + 1 ∧ ZSt us z0 pre z ∧ w.heap.size + 3 ≤ W.heap.size
theorem lies_le {w0 w W : World} {κ κ1 : K} {σ L : H} (h : Rep w0 κ σ w) (hle : κ.le κ1) (h1 : Rep w0 κ1 (σ ++ L) W) {b : Nat} (hb : b < σ.length) : (σ[b]).lies κ1 b = (σ[b]).lies κ b := by
  have x := h.blk b hb
  have y := h1.blk b (by simp; omega)
  rw [List.getElem_append_left hb] at y
  have hn : b < κ.n := by rw [h.n]; exact hb
  cases hσ : σ[b] with
  | cells cs tg =>
    rw [hσ] at x
    simp [Blk.lies, (hle.cells b hn x.fr).2]
  | spare e size n =>
    rw [hσ] at x y
    obtain ⟨f', q1, q2, q3, q4⟩ := hle.spare b n hn x.fr
    have : f' = n := by have := y.fr; rw [q1] at this; injection this
    simp only [Blk.lies, q3 this]
  | mp kvs =>
    rw [hσ] at x
    simp [Blk.lies, (hle.cells b hn x.fr).2]
  | vec e size cs =>
    rw [hσ] at x
    simp [Blk.lies, (hle.cells b hn x.fr).2]
  | gone => rfl
theorem op_far {w0 w W : World} {κ κ1 : K} {σ : H} {z : Typ} (h : Rep w0 κ σ w) (hle : κ.le κ1) (h1 : Rep w0 κ1 (σ ++ opC z) W) (p0 : κ1.pos σ.length = w.heap.size) (p1 : κ1.pos (σ.length + 1) = w.heap.size + 1) {b g : Nat} (hb : b < (σ ++ opC z).length) (hl : ((σ ++ opC z)[b]).lies κ1 b = some g) :
    g < w.heap.size + 2 ∧ (w.heap.size ≤ g → ∃ vs t, W.heap[g]? = some (.cells vs t (0, 0))) := by
  rcases Nat.lt_or_ge b σ.length with hb' | hb'
  · rw [List.getElem_append_left hb', lies_le h hle h1 hb'] at hl
    have := (h.lies_lt hb' hl).2
    exact ⟨by omega, fun _ => by omega⟩
  · have hy := h1.blk b hb
    have hb2 : b - σ.length < 2 := by simp [opC] at hb; omega
    rw [List.getElem_append_right hb'] at hl hy
    rcases (by omega : b = σ.length ∨ b = σ.length + 1) with rfl | rfl
    · simp only [Nat.sub_self, opC, List.getElem_cons_zero] at hl hy
      obtain ⟨vs, t, k1, _⟩ := hy.row
      have e : κ1.pos σ.length = g := by simpa [Blk.lies] using hl
      rw [e] at k1
      exact ⟨by omega, fun _ => ⟨vs, t, k1⟩⟩
    · simp only [Nat.add_sub_cancel_left, opC, List.getElem_cons_succ, List.getElem_cons_zero] at hl hy
      obtain ⟨vs, t, k1, _⟩ := hy.row
      have e : κ1.pos (σ.length + 1) = g := by simpa [Blk.lies] using hl
      rw [e] at k1
      exact ⟨by omega, fun _ => ⟨vs, t, k1⟩⟩
theorem opI_own {w0 w : World} {κ : K} {σ : H} (hrep : Rep w0 κ σ w) {us : List Typ} {z0 : Typ} {B : Nat} (hB : w.heap.size ≤ B) : OwnFrom B (OpI w0 κ σ w us z0) := by
  rintro pre W W' row ⟨κ1, z, h1, hle, p0, p1, h6, h7⟩ hg hr
  refine ⟨κ1, z, h1.kept hg (fun r e => ⟨Nat.le_trans hrep.ext.size (Nat.le_trans hB (hr r e).1), (hr r e).2⟩) (fun b hb g hl e => ?_) (fun l o hk e => ?_), hle, p0, p1, h6, Nat.le_trans h7 hg.size⟩
  · obtain ⟨f1, f2⟩ := op_far hrep hle h1 p0 p1 hb hl
    obtain ⟨q1, o, q2, q3⟩ := hr g e
    obtain ⟨vs, t, q4⟩ := f2 (by omega)
    rw [q4] at q2
    injection q2 with q2
    rw [← q2] at q3
    cases q3
  · rw [hle.rest] at hk
    have := (Array.getElem?_eq_some_iff.1 (hrep.rest l o hk).1).1
    have := (hr l e).1
    omega
theorem opI_start {w0 w : World} {κ : K} {σ : H} (hrep : Rep w0 κ σ w) (us : List Typ) (z0 : Typ) (t0 t1 t2 t3 : Value) (ht : TyCells κ.m z0 t0 t1 t2 t3) (o : Obj) :
    OpI w0 κ σ w us z0 [] (((w.alloc (.cells #[t0, t1, t2, t3] 30)).alloc (.cells #[.int .i64 0, .string ⟨#[]⟩, .int .i64 0, .slice none 0 0] 30)).alloc o) := by
  obtain ⟨h1, _⟩ := hrep.box (cs := [I z0.k, S z0.name, I z0.n, .c (tysC z0.l)]) (vs := [t0, t1, t2, t3]) 30 (tg := none) (fun T h => by cases h) rfl rfl (fun j hj => by
    rcases (by simp at hj; omega : j = 0 ∨ j = 1 ∨ j = 2 ∨ j = 3) with rfl | rfl | rfl | rfl
    · exact .c ht.1
    · exact .c ht.2.1
    · exact .c ht.2.2.1
    · exact .c ht.2.2.2)
  obtain ⟨h2, _⟩ := h1.box (cs := [I 0, S [], I 0, .csl []]) (vs := [.int .i64 0, .string ⟨#[]⟩, .int .i64 0, .slice none 0 0]) 30 (tg := none) (fun T h => by cases h) rfl rfl (fun j hj => by
    rcases (by simp at hj; omega : j = 0 ∨ j = 1 ∨ j = 2 ∨ j = 3) with rfl | rfl | rfl | rfl
    · exact .c (.int _ _)
    · exact .c (.str [] (by decide))
    · exact .c (.int _ _)
    · exact .csl (RC.sl [] 0 none 0 [] (fun r hr => by cases hr) (by simp) (by decide) rfl (fun h => absurd rfl h) (fun i hi => by simp at hi)))
  have h3 := h2.alloc o
  rw [List.append_assoc] at h3
  refine ⟨_, z0, h3, K.le_trans K.more_le K.more_le, ?_, ?_, rfl, by simp⟩
  · simp [K.more, hrep.n]
  · simp [K.more, hrep.n]
end Go.Proofs.YtpcmcfajfnpjeaaGreatDoor
namespace Go.Proofs.YtpcmcfajfnpjeaaGreatDoor
open Go.RowKit Go.Shelf Go.Lamb
attribute [local go_sem] Oper.semAt_some
theorem opI_step {w0 w W : World} {κ : K} {σ : H} (hrep : Rep w0 κ σ w) {us : List Typ} {z0 : Typ} {pre : List (_root_.Fin us.length)} {c : Code} {l m : Nat} (htr : tr Tryz.prog 16 c = some cOpenBody) (hfc : flatC c = true) (hI : OpI w0 κ σ w us z0 pre W) (x : _root_.Fin us.length)
    (hbd : ∀ z, ZSt us z0 pre z → nearM 2305843009213693952 z = true ∧ nodesM z ≤ 40000 ∧ nodesM us[x] * nodesM z ≤ 40000) (hx1 : x.1 ≤ 100000) (hu : nearM 2305843009213693952 us[x] = true) (hsu : nearM 2305843009213693952 (shiftM 0 (x.1 : Nat) us[x]) = true) (nu : nodesM us[x] ≤ 40000)
    (u0 u1 u2 u3 : Value) (hx : TyCells κ.m us[x] u0 u1 u2 u3) (Bx : Nat) (hBx : w.heap.size + 3 ≤ Bx) (e0 : W.cell? ⟨Bx, 0, none⟩ = some u0) (e1 : W.cell? ⟨Bx, 1, none⟩ = some u1) (e2 : W.cell? ⟨Bx, 2, none⟩ = some u2) (e3 : W.cell? ⟨Bx, 3, none⟩ = some u3)
    (a : Act) (hsz : a.tmps.size = 16) (hd : a.defers = []) (g2 : a.tmps.getD 2 undef = .pointer (some ⟨w.heap.size, 0, none⟩)) (g4 : a.tmps.getD 4 undef = .int .i64 (x.1 : Nat)) (g5 : a.tmps.getD 5 undef = .pointer (some ⟨Bx, 0, none⟩)) :
    c.wpIn (inR l) m Tryz.prog (fun e _ W2 => e = .normal ∧ KeepsFrom w.heap.size W W2 ∧ (∀ b o v, κ.m b o = some v → W2.cell? ⟨b, o, none⟩ = some v) ∧ (∀ o v, W.cell? ⟨w.heap.size + 2, o, none⟩ = some v → W2.cell? ⟨w.heap.size + 2, o, none⟩ = some v) ∧ OpI w0 κ σ w us z0 (pre ++ [x]) W2) a W := by
  obtain ⟨κ1, z, h1, hle1, p0, p1, hz, hsW⟩ := hI
  obtain ⟨b1, b2, b3⟩ := hbd z hz
  have hn1 : κ1.n = σ.length + 2 := by rw [h1.n]; simp [opC]
  have far : ∀ g, w.heap.size + 2 ≤ g → ∀ b (hb : b < (σ ++ opC z).length), ((σ ++ opC z)[b]).lies κ1 b ≠ some g := fun g hg b hb e => by
    have := (op_far hrep hle1 h1 p0 p1 hb e).1
    omega
  have h2 := h1.learnA (g := Bx) (far Bx (by omega))
  have l2 : κ1.le (κ1.learn W Bx) := K.learn_le h1
  have far2 : ∀ g, w.heap.size + 2 ≤ g → ∀ b (hb : b < (σ ++ opC z).length), ((σ ++ opC z)[b]).lies (κ1.learn W Bx) b ≠ some g := fun g hg b hb e => far g hg b hb e
  have q0 : (κ1.learn W Bx).pos σ.length = w.heap.size := p0
  have q1 : (κ1.learn W Bx).pos (σ.length + 1) = w.heap.size + 1 := p1
  generalize hκ2 : κ1.learn W Bx = κ2 at h2 l2 far2 q0 q1
  have h3 := h2.learnA (g := w.heap.size + 2) (far2 _ (Nat.le_refl _))
  have l3 : κ2.le (κ2.learn W (w.heap.size + 2)) := K.learn_le h2
  have mx : ∀ o v, W.cell? ⟨Bx, o, none⟩ = some v → (κ2.learn W (w.heap.size + 2)).m Bx o = some v := fun o v hv => by
    refine l3.m _ _ _ ?_
    rw [← hκ2]
    show (if Bx = Bx then _ else _) = _
    rw [if_pos rfl]; exact hv
  have ms : ∀ o v, W.cell? ⟨w.heap.size + 2, o, none⟩ = some v → (κ2.learn W (w.heap.size + 2)).m (w.heap.size + 2) o = some v := fun o v hv => by
    show (if w.heap.size + 2 = w.heap.size + 2 then _ else _) = _
    rw [if_pos rfl]; exact hv
  generalize hκ3 : κ2.learn W (w.heap.size + 2) = κ3 at h3 l3 mx ms
  have s0 : κ3.pos σ.length = w.heap.size := by rw [← hκ3]; exact q0
  have s1 : κ3.pos (σ.length + 1) = w.heap.size + 1 := by rw [← hκ3]; exact q1
  have l13 : κ1.le κ3 := K.le_trans l2 l3
  have l03 : κ.le κ3 := K.le_trans hle1 l13
  have h4 := h3.setRestA (r := fun k => if w.heap.size ≤ k then (W.heap[k]?).bind (fun o => if o.isCells then none else some o) else κ3.rest k) (lm := W.heap.size) (fun k o e => by
    split at e
    · cases hk : W.heap[k]? with
      | none => rw [hk] at e; cases e
      | some o' =>
        rw [hk] at e
        simp only [Option.bind_some] at e
        split at e
        · cases e
        · rename_i hc
          injection e with e
          subst e
          refine ⟨rfl, by simpa using hc, fun b hb e2 => ?_⟩
          obtain ⟨vs, t, q4⟩ := (op_far hrep l03 h3 s0 s1 hb e2).2 (by assumption)
          rw [q4] at hk
          injection hk with hk
          rw [← hk] at hc
          exact hc rfl
    · exact h3.rest k o e) (Nat.le_refl _)
  have hrest : ∀ k o, w.heap.size ≤ k → W.heap[k]? = some o → o.isCells = false → ({ κ3 with rest := fun k => if w.heap.size ≤ k then (W.heap[k]?).bind (fun o => if o.isCells then none else some o) else κ3.rest k, lim := W.heap.size } : K).rest k = some o := fun k o hk ho hc => by
    show (if _ then _ else _) = _
    rw [if_pos hk, ho]
    simp [hc]
  generalize hκ4 : ({ κ3 with rest := fun k => if w.heap.size ≤ k then (W.heap[k]?).bind (fun o => if o.isCells then none else some o) else κ3.rest k, lim := W.heap.size } : K) = κ4 at h4 hrest
  have v0 : κ4.pos σ.length = w.heap.size := by rw [← hκ4]; exact s0
  have v1 : κ4.pos (σ.length + 1) = w.heap.size + 1 := by rw [← hκ4]; exact s1
  have hm4 : κ4.m = κ3.m := by rw [← hκ4]
  have hlm : κ4.lim = W.heap.size := by rw [← hκ4]
  have hn4 : κ4.n = σ.length + 2 := by rw [h4.n]; simp [opC]
  have hmm : κ.m.le κ4.m := by rw [hm4]; exact l03.m
  have hxx := hx.mono hmm
  have fr0 : κ4.fr σ.length = none := by
    have := h4.blk σ.length (by simp [opC])
    rw [List.getElem_append_right (Nat.le_refl _)] at this
    simp only [Nat.sub_self, opC, List.getElem_cons_zero] at this
    exact this.fr
  have fr1 : κ4.fr (σ.length + 1) = none := by
    have := h4.blk (σ.length + 1) (by simp [opC])
    rw [List.getElem_append_right (by omega)] at this
    simp only [Nat.add_sub_cancel_left, opC, List.getElem_cons_succ, List.getElem_cons_zero] at this
    exact this.fr
  have hRel : Rel w0 κ4 16 κ4 ⟨(((base.put (some 2) (.ptr σ.length 0)).put (some 4) (I (x.1 : Nat))).put (some 5) (.c (.ref [.int .i64 us[x].k, .str us[x].name, .int .i64 us[x].n, .sl (us[x].l.map Typ.cs)] 0))), σ ++ opC z⟩ a W := by
    refine ⟨h4, fun k => ?_, hsz, hd, K.le_refl _⟩
    simp only [put_some]
    by_cases k5 : k = 5
    · subst k5
      simp only [if_true, g5]
      have m0 := mx 0 _ e0
      have m1 := mx 1 _ e1
      have m2 := mx 2 _ e2
      have m3 := mx 3 _ e3
      rw [← hm4] at m0 m1 m2 m3
      exact .c (RC.ref [.int .i64 us[x].k, .str us[x].name, .int .i64 us[x].n, .sl (us[x].l.map Typ.cs)] 0 Bx 0 [u0, u1, u2, u3] rfl (fun k hk => by
        rcases (by simp at hk; omega : k = 0 ∨ k = 1 ∨ k = 2 ∨ k = 3) with rfl | rfl | rfl | rfl
        · exact m0
        · exact m1
        · exact m2
        · exact m3) (fun k hk => by
        rcases (by simp at hk; omega : k = 0 ∨ k = 1 ∨ k = 2 ∨ k = 3) with rfl | rfl | rfl | rfl
        · exact hxx.1
        · exact hxx.2.1
        · exact hxx.2.2.1
        · exact hxx.2.2.2))
    · by_cases k4 : k = 4
      · subst k4
        simp [g4]
        exact .c (.int _ _)
      · by_cases k2 : k = 2
        · subst k2
          simp [g2]
          rw [← v0]
          exact RV.ptr (κ := κ4) (b := σ.length) (o := 0) (by omega) fr0
        · simp [k5, k4, k2]
          exact .any _
  have := code_soundR (l := l) (m := m) hn4 (by kernel_rfl) c cOpenBody htr hfc (open_body w0 σ z us[x] x.1 hx1 (.cells [I 0, S [], I 0, .csl []]) b1 hu hsu nu b2 b3) hRel
  refine wpIn_mono this ?_
  rintro e a2 W2 ⟨s, κ5, hR5, hQ⟩
  cases e with
  | normal =>
    obtain ⟨t, hl, hJ⟩ := Lamb.W.inv_inv hQ
    obtain ⟨κ6, hR6⟩ := hl w0 κ4 16 κ5 a2 W2 hn4 hR5
    have rep := hR6.rep
    have le := hR6.le
    rw [hJ] at rep
    have lim := rep.lim
    rw [le.lim, hlm] at lim
    refine ⟨rfl, ⟨lim, fun k o hk ho hc => ?_⟩, ?_, fun o v hv => ?_, ?_⟩
    · exact (rep.rest k o (by rw [le.rest]; exact hrest k o hk ho hc)).1
    · exact fun b o v hv => rep.mem _ _ _ (le.m _ _ _ (hmm _ _ _ hv))
    · exact rep.mem _ _ _ (le.m _ _ _ (by rw [hm4]; exact ms o v hv))
    · have h6 := rep.setRestA (r := κ.rest) (lm := κ.lim) (fun k o hk => by
        have k0 := hk
        have hk1 : κ3.rest k = some o := by rw [l03.rest]; exact hk
        obtain ⟨a1, a2, a3⟩ := h3.rest k o hk1
        have hlt : k < w.heap.size := (Array.getElem?_eq_some_iff.1 (hrep.rest k o k0).1).1
        have hk6 : κ6.rest k = some o := by
          rw [le.rest, ← hκ4]
          show (if _ then _ else _) = _
          rw [if_neg (by omega)]
          exact hk1
        exact rep.rest k o hk6) (Nat.le_trans hrep.lim (by omega))
      have l46 : ({ κ3 with rest := κ.rest, lim := κ.lim } : K).le { κ6 with rest := κ.rest, lim := κ.lim } := ⟨by rw [← hκ4] at le; exact le.m, by rw [← hκ4] at le; exact le.n, by rw [← hκ4] at le; exact le.cells, by rw [← hκ4] at le; exact le.spare, by rw [← hκ4] at le; exact le.svs, rfl, rfl⟩
      have l36 : κ.le { κ6 with rest := κ.rest, lim := κ.lim } := K.le_trans (b := { κ3 with rest := κ.rest, lim := κ.lim }) ⟨l03.m, l03.n, l03.cells, l03.spare, l03.svs, rfl, rfl⟩ l46
      refine ⟨{ κ6 with rest := κ.rest, lim := κ.lim }, _, h6, l36, ?_, ?_, ?_, Nat.le_trans hsW lim⟩
      · exact (le.cells σ.length (by omega) fr0).2.trans v0
      · exact (le.cells (σ.length + 1) (by omega) fr1).2.trans v1
      · unfold ZSt at hz ⊢
        rw [List.foldl_append, ← hz]
        rfl
  | exit id => exact absurd hQ.choose_spec.1 (by simp [popTo])
  | ret => exact hQ.elim
  | goto l => exact hQ.elim
  | panic c => exact hQ.elim
  | outgrown => exact hQ.elim
end Go.Proofs.YtpcmcfajfnpjeaaGreatDoor
namespace Go.Proofs.YtpcmcfajfnpjeaaGreatDoor
open Go.RowKit Go.Shelf Go.Lamb
attribute [local go_sem] Oper.semAt_some
theorem open_z (us : List Typ) (hl : us.length ≤ 1) (z0 : Typ) (ys : List (_root_.Fin us.length)) (hS : ys.map Fin.val = downTo us.length us.length) : ys.foldl (fun z x => substM 0 (shiftM 0 (x.1 : Nat) us[x]) z) z0 = openI 0 us z0 := by
  have hlen : ys.length = us.length := by
    have := congrArg List.length hS
    rwa [List.length_map, downTo_length] at this
  cases us with
  | nil =>
    have : ys = [] := List.eq_nil_of_length_eq_zero hlen
    subst this
    rfl
  | cons u r =>
    have hr : r = [] := List.eq_nil_of_length_eq_zero (by rw [List.length_cons] at hl; omega)
    subst hr
    cases ys with
    | nil => simp at hlen
    | cons x l =>
      have hl2 : l = [] := List.eq_nil_of_length_eq_zero (by simpa using hlen)
      subst hl2
      have : x = 0 := by omega
      subst this
      rfl
set_option maxRecDepth 100000 in
set_option maxHeartbeats 4000000 in
theorem open_run {w0 w : World} {κ : K} {σ : H} (hrep : Rep w0 κ σ w) (z0 : Typ) (us : List Typ) (hl : us.length ≤ 1)
    (hbd : ∀ u ∈ us, nearM 2305843009213693952 z0 = true ∧ nodesM z0 ≤ 40000 ∧ nodesM u * nodesM z0 ≤ 40000 ∧ nearM 2305843009213693952 u = true ∧ nearM 2305843009213693952 (shiftM 0 0 u) = true ∧ nodesM u ≤ 40000)
    (A : Option Addr) (len cap : Nat) (t0 t1 t2 t3 : Value) (ht : TyCells κ.m z0 t0 t1 t2 t3) (pc : Nat) (po : Nat) (hpc : w.cell? ⟨pc, po, none⟩ = some (.slice A len cap)) (hfv : RC κ.m (tysC us) (.slice A len cap)) :
    Calls Tryz.prog 136 #[.agg #[t0, t1, t2, t3], .pointer (some ⟨pc, po, none⟩)] w (fun e w' => ∃ v κ', e = .returned v ∧ κ.le κ' ∧ Rep w0 κ' σ w' ∧ RV κ' (openI 0 us z0).v v) := by
  obtain ⟨rfl, xs, hx, hxs⟩ := rows_cells hfv
  obtain ⟨b, off, hA, hm⟩ : ∃ b off, (0 < us.length → A = some ⟨b, off, none⟩) ∧ (0 < us.length → ∀ k, k < us.length * 4 → κ.m b (off + k) = some (xs k)) := by
    by_cases h : 0 < us.length
    · obtain ⟨b, o, e, h'⟩ := hx h
      exact ⟨b, o, fun _ => e, fun _ => h'⟩
    · exact ⟨0, 0, fun h' => absurd h' h, fun h' => absurd h' h⟩
  have hm' : ∀ k, k < us.length * 4 → w.cell? ⟨b, off + k, none⟩ = some (xs k) := fun k hk => hrep.mem _ _ _ (hm (by omega) k hk)
  have hb : 0 < us.length → b < w.heap.size := fun h => hrep.mem_lt (hm h 0 (by omega))
  have hpl : pc < w.heap.size := cell_lt hpc
  refine (callsIn_wide (n := 3)).1 ?_
  refine callsIn_of_wp_marks Tryz.func136 rfl trivial ?_ rfl
  simp only [Tryz.ntmps136, List.size_toArray, List.length_cons, List.length_nil, Nat.reduceAdd, Nat.reduceSub, Array.replicate_succ, Array.replicate_zero, List.push_toArray, List.append_toArray, List.nil_append, List.cons_append]
  have hpc1 : ∀ o1 o2, ((w.alloc o1).alloc o2).cell? ⟨pc, po, none⟩ = some (.slice A us.length cap) := fun o1 o2 => cell_alloc_l _ (cell_alloc_l _ hpc)
  gi_wp2_with (refine ⟨trivial, ?_⟩; gi_at_call 137; refine (back_inT Fence.wide 2 trivial rfl _ _ _ _).mono ?_; rintro e w' ⟨rfl, rfl⟩)
  obtain ⟨W0, hW0⟩ : ∃ W0, (((w.alloc (.cells #[t0, t1, t2, t3] 30)).alloc (.cells #[.int .i64 0, .string ⟨#[]⟩, .int .i64 0, .slice none 0 0] 30)).alloc (.cells #[.slice A us.length cap] 28)) = W0 := ⟨_, rfl⟩
  have hI0 : OpI w0 κ σ w us z0 [] W0 := hW0 ▸ opI_start hrep us z0 t0 t1 t2 t3 ht _
  rw [hW0]
  have hsz : W0.heap.size = w.heap.size + 3 := by rw [← hW0]; simp
  have hBel : Below w.heap.size w W0 := by
    rw [← hW0]
    exact (((Below.refl _ w).alloc (Nat.le_refl _) _).alloc (by simp) _).alloc (by simp; omega) _
  have hcD : W0.cell? ⟨w.heap.size + 1 + 1, 0, none⟩ = some (.slice A us.length cap) := by
    rw [← hW0]
    exact World.cell?_alloc_at _ _ _ _ (by simp)
  refine wpIn_rangeFunc_ownH rfl (by omega) (gf := 226) (lb := #[.pointer (some ⟨w.heap.size + 1 + 1, 0, none⟩)]) rfl trivial (enters_of Tryz.func226 (by kernel_rfl) rfl)
    (back_stopsT Fence.wide 2 trivial rfl (by omega) (w.heap.size + 1 + 1) w.heap.size b off us.length cap A hA xs (by omega) hb W0 (by omega) (by omega) hcD (fun j hj => (hBel.cell (p := ⟨b, off + j, none⟩) (hb (by omega))).trans (hm' j hj)))
    KpC.trans (fun W l o o' _ h hc _ => KpC.turn W l o o' h hc) (Below.refl _ _) (fun _ => rfl)
    (OpI w0 κ σ w us z0)
    (fun _ _ _ => False) (opI_own hrep (by omega)) (fun _ _ _ _ _ h => h.elim) hI0
    (fun x a' W => ∃ Bx, w.heap.size + 3 ≤ Bx ∧ W.cell? ⟨Bx, 0, none⟩ = some (xs (x.1 * 4)) ∧ W.cell? ⟨Bx, 1, none⟩ = some (xs (x.1 * 4 + 1)) ∧ W.cell? ⟨Bx, 2, none⟩ = some (xs (x.1 * 4 + 2)) ∧ W.cell? ⟨Bx, 3, none⟩ = some (xs (x.1 * 4 + 3)) ∧ a' = { tmps := #[.agg #[t0, t1, t2, t3], .pointer (some ⟨pc, po, none⟩), .pointer (some ⟨w.heap.size, 0, none⟩), .pointer (some ⟨w.heap.size + 1, 0, none⟩), .int .i64 (x.1 : Nat), .pointer (some ⟨Bx, 0, none⟩), .slice A us.length cap, .func (.func 226) #[] #[.pointer (some ⟨w.heap.size + 1 + 1, 0, none⟩)], .int .i64 (x.1 : Nat), cellsOf4 xs x.1, undef, undef, undef, undef, undef, undef], defers := [] }) ?hAx ?assign ?body ?done ?stop
  case stop =>
    rintro D c pre W _ _ h _
    exact h.elim
  case hAx =>
    rintro x a' _ W W' row ⟨Bx, h1, h2, h3, h4, h5, h6⟩ hg hr
    have hr' : ∀ r, row = some r → ∃ o : Obj, W.heap[r]? = some o ∧ o.isCells = false := fun r e => (hr r e).2
    exact ⟨Bx, h1, cell_kept h2 hg hr', cell_kept h3 hg hr', cell_kept h4 hg hr', cell_kept h5 hg hr', h6⟩
  case assign =>
    intro l pre x W K hi hK
    obtain ⟨k0, k1, k2, k3⟩ := hxs x.1 x.2
    have o0 := k0.one
    have o1 := k1.one
    have o2 := k2.one
    have o3 := k3.one
    have r0 := fun (W : World) (a : Addr) => run_store Tryz.prog W a _ .plain o0
    have r1 := fun (W : World) (a : Addr) => run_store Tryz.prog W a _ .plain o1
    have r2 := fun (W : World) (a : Addr) => run_store Tryz.prog W a _ .plain o2
    have r3 := fun (W : World) (a : Addr) => run_store Tryz.prog W a _ .plain o3
    have hsW : w.heap.size + 3 ≤ W.heap.size := by obtain ⟨_, _, _, _, _, _, _, h⟩ := hi; exact h
    unfold cellsOf4
    gi_wp2
    refine hK _ _ ((KeepsOthers.alloc _ _).from _) ⟨fun v e => cell_alloc_l _ e, fun j _ v e => cell_alloc_l _ e⟩ (opI_own hrep (Nat.le_refl _) _ _ _ none hi (World.grownBy_alloc W _ none) (fun r e => by cases e)) ⟨W.heap.size, hsW, ?_, ?_, ?_, ?_, rfl⟩
    all_goals exact World.cell?_alloc_at _ _ _ _ rfl
  case body =>
    rintro l pre x a' W hl2 hrec hI ⟨Bx, hBx, e0, e1, e2, e3, rfl⟩ hlt
    have hpre : pre = [] := List.eq_nil_of_length_eq_zero (by omega)
    have hx0 : x.1 = 0 := by have := x.2; omega
    obtain ⟨b1, b2, b3, b4, b5, b6⟩ := hbd us[x] (List.getElem_mem _)
    refine wpIn_mono (opI_step hrep (l := l) (m := 3 - 1 - 1) (by kernel_rfl) (by kernel_rfl) hI x (fun z hz => by
      have : z = z0 := by rw [hz, hpre]; rfl
      rw [this]
      exact ⟨b1, b2, b3⟩) (by omega) b4 (by rw [show ((x.1 : Nat) : Int) = 0 by omega]; exact b5) b6 _ _ _ _ (hxs x.1 x.2) Bx hBx e0 e1 e2 e3 _ rfl rfl rfl rfl rfl) ?_
    rintro e a2 W2 ⟨rfl, q1, q2, q3, q4⟩
    refine ⟨⟨q1.size, fun k o hk => q1.same k o (by omega)⟩, ⟨fun v hv => q3 0 v hv, fun j hj v hv => ?_⟩, q4⟩
    obtain ⟨κ1, z, h1, hle, _⟩ := hI
    have hmm := hm (by omega) j hj
    have := h1.mem _ _ _ (hle.m _ _ _ hmm)
    rw [this] at hv
    injection hv with hv
    subst hv
    exact q2 _ _ _ hmm
  case done =>
    rintro D ys W hD hS ⟨κ1, z, h1, hle, p0, p1, hz, hsW⟩ hK
    have y0 := h1.blk σ.length (by simp [opC])
    rw [List.getElem_append_right (Nat.le_refl _)] at y0
    simp only [Nat.sub_self, opC, List.getElem_cons_zero] at y0
    have y1 := h1.blk (σ.length + 1) (by simp [opC])
    rw [List.getElem_append_right (by omega)] at y1
    simp only [Nat.add_sub_cancel_left, opC, List.getElem_cons_succ, List.getElem_cons_zero] at y1
    have y1free := y1.free
    obtain ⟨vs, T, k1, k2, k3⟩ := y0.row
    obtain ⟨us', T', k1', k2', k3'⟩ := y1.row
    rw [p0] at k1
    rw [p1] at k1'
    have hvs : vs.size = 4 := k2
    have hus : us'.size = 4 := k2'
    have cz : TyCells κ1.m z (vs.getD 0 undef) (vs.getD 1 undef) (vs.getD 2 undef) (vs.getD 3 undef) := by
      have a0 := (k3 0 (by simp)).2
      have a1 := (k3 1 (by simp)).2
      have a2 := (k3 2 (by simp)).2
      have a3 := (k3 3 (by simp)).2
      simp only [List.getElem_cons_zero, List.getElem_cons_succ] at a0 a1 a2 a3
      generalize vs.getD 0 undef = c0 at *
      generalize vs.getD 1 undef = c1 at *
      generalize vs.getD 2 undef = c2 at *
      generalize vs.getD 3 undef = c3 at *
      cases a0 with | c a0 => cases a1 with | c a1 => cases a2 with | c a2 => cases a3 with | c a3 => exact ⟨a0, a1, a2, a3⟩
    have q : ∀ j, j < 4 → W.cell? ⟨w.heap.size, j, none⟩ = some (vs.getD j undef) := fun j hj => by
      rw [Lib.cell_of_heap k1 j, Array.getElem?_eq_getElem (by omega)]
      simp [Array.getD, hvs, hj]
    have q0 := q 0 (by omega)
    have q1 := q 1 (by omega)
    have q2 := q 2 (by omega)
    have q3 := q 3 (by omega)
    have g : ∀ j, j < 4 → W.cell? ⟨w.heap.size + 1, j, none⟩ = some (us'.getD j undef) := fun j hj => by
      rw [Lib.cell_of_heap k1' j, Array.getElem?_eq_getElem (by omega)]
      simp [Array.getD, hus, hj]
    have g0 := g 0 (by omega)
    have g1 := g 1 (by omega)
    have g2 := g 2 (by omega)
    have g3 := g 3 (by omega)
    have e0 := Lib.frozen_of_heap k1' 0
    have e1 := Lib.frozen_of_heap k1' 1
    have e2 := Lib.frozen_of_heap k1' 2
    have e3 := Lib.frozen_of_heap k1' 3
    generalize vs.getD 0 undef = c0 at *
    generalize vs.getD 1 undef = c1 at *
    generalize vs.getD 2 undef = c2 at *
    generalize vs.getD 3 undef = c3 at *
    have o0 := cz.1.one
    have o1 := cz.2.1.one
    have o2 := cz.2.2.1.one
    have o3 := cz.2.2.2.one
    have r0 := fun (W : World) (a : Addr) => run_store Tryz.prog W a _ .plain o0
    have r1 := fun (W : World) (a : Addr) => run_store Tryz.prog W a _ .plain o1
    have r2 := fun (W : World) (a : Addr) => run_store Tryz.prog W a _ .plain o2
    have r3 := fun (W : World) (a : Addr) => run_store Tryz.prog W a _ .plain o3
    clear q g k3 k3' y0 y1 hxs hx hm hm'
    gi_wp2
    have hK' : (set4 W (w.heap.size + 1) c0 c1 c2 c3).heap[D]? = some (.deferred (some [])) := (set4_keeps (W := W) (B := w.heap.size + 1) (a := c0) (b := c1) (c := c2) (d := c3)).same D _ hK rfl
    obtain ⟨n0, n1, n2, n3⟩ := set4_in (a := c0) (b := c1) (c := c2) (d := c3) g0 g1 g2 g3
    refine ⟨by simp, .inl ⟨_, _, rfl, run_takeDeferred hK', ?_⟩⟩
    have hp : ∀ {a : Addr} {v : Value}, (set4 W (w.heap.size + 1) c0 c1 c2 c3).cell? a = some v → ((set4 W (w.heap.size + 1) c0 c1 c2 c3).putObj D (.deferred none)).cell? a = some v := fun h => cell_kept h (grownBy_putObj' _ D (.deferred none)) (fun r e => by cases e; exact ⟨_, hK', rfl⟩)
    have hws := hrep.ext.size
    have hcut := h1.cut σ.length (by simp) (by rw [List.take_left]; exact hrep.ok)
    rw [List.take_left] at hcut
    have hlow : ∀ b (hb : b < σ.length) gg, (σ[b]).lies (κ1.cut σ.length) b = some gg → gg < w.heap.size := fun b hb gg hl2 => by
      have e : (σ[b]).lies (κ1.cut σ.length) b = (σ[b]).lies κ b := lies_le hrep hle h1 hb
      rw [e] at hl2
      exact (hrep.lies_lt hb hl2).2
    have hrst : ∀ k o, (κ1.cut σ.length).rest k = some o → k < w.heap.size := fun k o hk => by
      have hk2 : κ1.rest k = some o := hk
      rw [hle.rest] at hk2
      exact (Array.getElem?_eq_some_iff.1 (hrep.rest k o hk2).1).1
    have hpk := hcut.poke (w' := set4 W (w.heap.size + 1) c0 c1 c2 c3) (g := w.heap.size + 1) ⟨rfl, rfl, rfl, by rw [set4_size]; exact Nat.le_refl _, fun k hk hne => by
        have hne : k ≠ w.heap.size + 1 := fun e => hne (by rw [e])
        unfold set4 World.setCell
        simp [Array.getElem?_modify, Ne.symm hne]⟩ (set4_below h1.ext (by omega)) (fun o => by rw [← p1]; exact y1free o) (fun b hb hl2 => by have := hlow b hb _ hl2; omega) (by
        cases hk : (κ1.cut σ.length).rest (w.heap.size + 1) with
        | none => rfl
        | some o => have := hrst _ _ hk; omega)
    have hkp := hpk.kept (grownBy_putObj' (set4 W (w.heap.size + 1) c0 c1 c2 c3) D (.deferred none)) (fun r e => by cases e; exact ⟨by omega, _, hK', rfl⟩) (fun b hb gg hl2 e => by injection e with e; have := hlow b hb _ hl2; omega) (fun k o hk e => by injection e with e; have := hrst k o hk; omega)
    change LeavesInM _ _ _ _ _ _ _ _ ((set4 W (w.heap.size + 1) c0 c1 c2 c3).putObj D (.deferred none))
    generalize hWf : (set4 W (w.heap.size + 1) c0 c1 c2 c3).putObj D (.deferred none) = Wf at *
    have u0 := hp n0
    have u1 := hp n1
    have u2 := hp n2
    have u3 := hp n3
    have hres : (loadVar 30 ⟨w.heap.size + 1, 0, none⟩).run Tryz.prog Wf = .ok (.agg #[c0, c1, c2, c3]) Wf := by
      obtain ⟨i0, hi, hz0, hz1, hz2⟩ := info_parts tmInfo
      have := run_loadCells (P := Tryz.prog) Wf ⟨w.heap.size + 1, 0, none⟩ 4 (fun j => [c0, c1, c2, c3].getD j undef) (fun j hj => by
        rw [add_lit, Nat.zero_add]
        rcases (by omega : j = 0 ∨ j = 1 ∨ j = 2 ∨ j = 3) with rfl | rfl | rfl | rfl
        · exact u0
        · exact u1
        · exact u2
        · exact u3)
      simp only [loadVar, Sem.run_bind, Sem.run_pure, Result.andThen_ok, Go.Lamb.run_isAgg Tryz.underlying30, isAggD, if_true, Go.Lamb.run_sizeOf hi, hz1, this]
      rfl
    refine ⟨.agg #[c0, c1, c2, c3], by simp [results, Tryz.f136, asAddr, hres], _, κ1.cut σ.length, rfl, K.cut_le hle (by rw [hrep.n]; exact Nat.le_refl _), hkp, ?_⟩
    have hzz : z = openI 0 us z0 := by
      rw [hz]
      exact open_z us hl z0 ys hS
    rw [← hzz]
    refine RV.agg (xs := [c0, c1, c2, c3]) rfl fun j hj => ?_
    rcases (by simp at hj; omega : j = 0 ∨ j = 1 ∨ j = 2 ∨ j = 3) with rfl | rfl | rfl | rfl
    · exact .c cz.1
    · exact .c cz.2.1
    · exact .c cz.2.2.1
    · exact .c cz.2.2.2
end Go.Proofs.YtpcmcfajfnpjeaaGreatDoor
namespace Go.Proofs.YtpcmcfajfnpjeaaGreatDoor
open Go.RowKit Go.Shelf Go.Lamb
theorem clause_Open2 (w0 : World) (z0 : Typ) (us : List Typ) (hl : us.length ≤ 1)
    (hbd : ∀ u ∈ us, nearM 2305843009213693952 z0 = true ∧ nodesM z0 ≤ 40000 ∧ nodesM u * nodesM z0 ≤ 40000 ∧ nearM 2305843009213693952 u = true ∧ nearM 2305843009213693952 (shiftM 0 0 u) = true ∧ nodesM u ≤ 40000)
    (σ : H) (b o : Nat) (cs : List V) (tg : Option TypeId) (hb : σ[b]? = some (.cells cs tg)) (y : V) (hy : cs[o]? = some y) (hw : V.wk y (.c (tysC us))) : DC Tryz.prog w0 136 [z0.v, .ptr b o] σ (Same (openI 0 us z0).v σ) := by
  refine ⟨enters_fn Tryz.func136 (by kernel_rfl) rfl, fun κ w vs hrep hfit => ?_⟩
  obtain ⟨v, ys, rfl, hv, hfit⟩ := hfit.cons_inv
  obtain ⟨u, zs, rfl, hu, hfit⟩ := hfit.cons_inv
  have := hfit.nil_inv
  subst this
  have hu' : u = .pointer (some ⟨κ.pos b, o, none⟩) := by cases hu; rfl
  subst hu'
  obtain ⟨hlt, hb'⟩ := List.getElem?_eq_some_iff.1 hb
  obtain ⟨hlo, ho'⟩ := List.getElem?_eq_some_iff.1 hy
  have hblk := hrep.blk b hlt
  rw [hb'] at hblk
  obtain ⟨vs, T, k1, k2, k3⟩ := hblk.row
  have hk := (k3 o hlo).2
  rw [ho'] at hk
  have hk := RV.wk hw hk
  have hc : w.cell? ⟨κ.pos b, o, none⟩ = some (vs.getD o undef) := by
    rw [Lib.cell_of_heap k1 o, Array.getElem?_eq_getElem (by omega)]
    simp [Array.getD, k2, hlo]
  generalize vs.getD o undef = q at hk hc
  unfold Typ.v at hv
  cases hv with
  | agg h h1 =>
    rename_i xs
    match xs, h with
    | [x0, x1, x2, x3], _ =>
      have e0 := h1 0 (by simp)
      have e1 := h1 1 (by simp)
      have e2 := h1 2 (by simp)
      have e3 := h1 3 (by simp)
      cases hk with
      | c hk =>
        have hk' := hk
        unfold tysC at hk
        cases hk with
        | sl rows s A cap xs h0 h1 h2 h3 h4 h5 =>
          cases e0 with
          | c e0 =>
            cases e1 with
            | c e1 =>
              cases e2 with
              | c e2 =>
                cases e3 with
                | c e3 =>
                  refine (open_run hrep z0 us hl hbd A _ cap _ _ _ _ ⟨e0, e1, e2, e3⟩ _ _ hc hk').mono ?_
                  rintro e w' ⟨v, κ', rfl, q1, q2, q3⟩
                  exact ⟨v, _, σ, κ', rfl, ⟨rfl, rfl⟩, q1, q2, q3⟩
end Go.Proofs.YtpcmcfajfnpjeaaGreatDoor
namespace Go.Proofs.YtpcmcfajfnpjeaaGreatDoor
open Go.RowKit Go.Lamb

theorem size_builder : (Tryz.prog.info? 123).map (·.size) = some 2 := by kernel_rfl
theorem lies_builder : liesAt Tryz.prog Tryz.prog.depth 196 (3 / Tryz.prog.cellsOf 196) 1 123 1 = true := by kernel_rfl
set_option maxHeartbeats 1000000 in
set_option maxRecDepth 100000 in
theorem copyCheck_used (w : World) (p : Nat) (h0 : w.cell? ⟨p, 1, none⟩ = some (.pointer (some ⟨p, 1, none⟩))) :
    Calls Tryz.prog 175 #[.pointer (some ⟨p, 1, none⟩)] w fun e w' => e = .returned (.tuple #[]) ∧ w' = w := by
  obtain ⟨j, hj, _⟩ := Option.map_eq_some_iff.1 size_builder
  go_enter Tryz.func175, Tryz.ntmps175
  go_wp2
  rw [Lib.run_neq_ptr_same w _ Tryz.underlying120 hj]
  go_wp2
  go_end0
  exact ⟨rfl, rfl⟩
set_option maxHeartbeats 1000000 in
set_option maxRecDepth 100000 in
theorem copyCheck_fresh (w : World) (p : Nat) (h0 : w.cell? ⟨p, 1, none⟩ = some (.pointer none)) (hsh : w.shape? p = some (196, 3)) (hfz : w.frozen? ⟨p, 1, none⟩ = false) :
    Calls Tryz.prog 175 #[.pointer (some ⟨p, 1, none⟩)] w fun e w' => e = .returned (.tuple #[]) ∧ w' = w.setCell ⟨p, 1, none⟩ (.pointer (some ⟨p, 1, none⟩)) := by
  obtain ⟨j, hj, hjs⟩ := Option.map_eq_some_iff.1 size_builder
  go_enter Tryz.func175, Tryz.ntmps175
  go_wp2
  rw [Lib.run_to_unsafe w ⟨p, 1, none⟩ Tryz.underlying120 Tryz.underlying265 hj (by rw [hjs]; decide) hsh (show 1 < 3 by decide)]
  simp only [Result.andThen]
  rw [Oper.upon_value]
  go_wp2
  rw [run_callFunc_extern Tryz.func249 (by kernel_rfl) (by kernel_rfl) (by kernel_rfl) (e := Extern.AbiNoEscape.same) (by kernel_rfl)]
  rw [Lib.run_noEscape]
  simp only [Result.andThen]
  rw [Oper.upon_value]
  go_wp2
  rw [Lib.run_from_unsafe w ⟨p, 1, none⟩ Tryz.underlying265 Tryz.underlying120 hj hsh lies_builder]
  simp only [Result.andThen]
  rw [Oper.upon_value]
  go_wp2
  go_end0
  exact ⟨rfl, rfl⟩
theorem setCell_row {w : World} {p o : Nat} {vs : Array Value} {t : TypeId} {fr : Nat × Nat} (h : w.heap[p]? = some (.cells vs t fr)) (v : Value) : w.setCell ⟨p, o, none⟩ v = w.setRow p (vs.setIfInBounds o v) := by
  unfold World.setCell World.setRow
  congr 1
  apply Array.ext_getElem?
  intro i
  rw [Array.getElem?_modify, Array.getElem?_modify]
  by_cases hi : p = i
  · subst hi
    rw [if_pos rfl, if_pos rfl, h]
    rfl
  · rw [if_neg hi, if_neg hi]
theorem copyCheckD (w0 : World) (σ : H) (b : Nat) (x A y : V) (hb : σ[b]? = some (.cells [x, A, y] (some 196))) (hA : A = .c .nilp ∨ A = .ptr b 1) :
    DC Tryz.prog w0 175 [.ptr b 1] σ (fun d σ' => d = .tup [] ∧ σ' = σ.set b (.cells [x, .ptr b 1, y] (some 196))) := by
  refine ⟨enters_fn Tryz.func175 (by kernel_rfl) rfl, fun κ w vs hrep hfit => ?_⟩
  obtain ⟨v, ys, rfl, hv, hfit⟩ := hfit.cons_inv
  have := hfit.nil_inv
  subst this
  obtain ⟨hlt, hb'⟩ := List.getElem?_eq_some_iff.1 hb
  have hblk := hrep.blk b hlt
  rw [hb'] at hblk
  obtain ⟨us, T, k1, k2, k3⟩ := hblk.row
  obtain ⟨us', k4⟩ := hblk.ty _ rfl
  have hT : T = 196 := by rw [k1] at k4; injection k4 with k4; injection k4
  subst hT
  have k2 : us.size = 3 := k2
  have hc1 : w.cell? ⟨κ.pos b, 1, none⟩ = us[1]? := Lib.cell_of_heap k1 1
  have hu1 : us[1]? = some (us.getD 1 undef) := by rw [Array.getElem?_eq_getElem (by omega)]; simp [Array.getD, k2]
  have h1 := (k3 1 (by simp)).2
  have hvp : v = .pointer (some ⟨κ.pos b, 1, none⟩) := by cases hv; rfl
  subst hvp
  have hn : κ.n = σ.length := hrep.n
  rcases hA with rfl | rfl
  · have h2 : us.getD 1 undef = .pointer none := by
      generalize us.getD 1 undef = z at h1
      cases h1 with | c h => cases h; rfl
    refine (copyCheck_fresh w (κ.pos b) (by rw [hc1, hu1, h2]) (by simp [World.shape?, k1, k2]) (Lib.frozen_of_heap k1 1)).mono ?_
    rintro e w' ⟨rfl, rfl⟩
    refine ⟨_, .tup [], _, κ, rfl, ⟨rfl, rfl⟩, K.le_refl κ, ?_, .tup rfl (fun j hj => absurd hj (Nat.not_lt_zero _))⟩
    rw [setCell_row k1]
    have hw := hrep.wrote (cs' := [x, .ptr b 1, y]) (vs := (us.setIfInBounds 1 (.pointer (some ⟨κ.pos b, 1, none⟩))).toList) hb (by
      have l0 := (k3 0 (by simp)).1; have l2 := (k3 2 (by simp)).1
      simp only [List.getElem_cons_zero, List.getElem_cons_succ] at l0 l2
      unfold leaves
      simp only [List.all_cons, List.all_nil, l0, l2]
      rfl) (by simp [k2]) (fun j hj => by
      have r0 := (k3 0 (by simp)).2; have r2 := (k3 2 (by simp)).2
      match j, hj with
      | 0, _ => simpa [List.getD, Array.getD, k2] using r0
      | 1, _ => simpa [List.getD, k2] using RV.ptr (κ := κ) (b := b) (o := 1) (by omega) hblk.fr
      | 2, _ => simpa [List.getD, Array.getD, k2] using r2)
    rwa [Array.toArray_toList] at hw
  · have h2 : us.getD 1 undef = .pointer (some ⟨κ.pos b, 1, none⟩) := by
      generalize us.getD 1 undef = z at h1
      cases h1; rfl
    refine (copyCheck_used w (κ.pos b) (by rw [hc1, hu1, h2])).mono ?_
    rintro e w' ⟨rfl, rfl⟩
    refine ⟨_, .tup [], σ, κ, rfl, ⟨rfl, ?_⟩, K.le_refl κ, hrep, .tup rfl (fun j hj => absurd hj (Nat.not_lt_zero _))⟩
    apply List.ext_getElem?
    intro i
    rw [List.getElem?_set]
    by_cases hi : b = i
    · subst hi; rw [if_pos rfl, if_pos hlt, hb]
    · rw [if_neg hi]
end Go.Proofs.YtpcmcfajfnpjeaaGreatDoor
namespace Go.Proofs.YtpcmcfajfnpjeaaGreatDoor
open Go.RowKit Go.Lamb
def c86 : AC := .seq (.reg [.o 4 (.mov (.k (.c (.int .i64 0)))), .o 5 (.mov (.k (.c (.nili))))]) (.seq (.reg [.m 6 0, .k 7 175 [(.t 6)]]) (.seq (.reg [.m 8 0, .m 9 0, .n 10 9, .f 11 1 10, .l 12 11, .m 13 1, .o 14 (.appS 5 1 (.t 12) (.t 13)), .n 15 8, .f 16 1 15, .s 1 16 14]) (.seq (.reg [.m 17 1, .o 18 (.lens (.t 17)), .m 4 18, .o 5 (.mov (.k (.c (.nili))))]) (.ret))))
def r86 : List ResV := [.tmp 4, .tmp 5]
theorem k86 : CodeIs Tryz.prog 86 2 Tryz.f86 c86 r86 := .auto Tryz.func86
def c242 : AC := .seq (.reg [.o 4 (.mov (.k (.c (.nili))))]) (.seq (.reg [.m 5 0, .k 6 175 [(.t 5)]]) (.seq (.reg [.m 7 0, .m 8 0, .n 9 8, .f 10 1 9, .l 11 10, .m 12 1, .o 13 (.bsl 1 [(.t 12)]), .o 14 (.app 5 1 1 (.t 11) (.t 13)), .n 15 7, .f 16 1 15, .s 1 16 14]) (.seq (.reg [.o 4 (.mov (.k (.c (.nili))))]) (.ret))))
def r242 : List ResV := [.tmp 4]
theorem k242 : CodeIs Tryz.prog 242 2 Tryz.f242 c242 r242 := .auto Tryz.func242
--absent /-- (*strings.Builder).Len -/
end Go.Proofs.YtpcmcfajfnpjeaaGreatDoor
namespace Go.Proofs.YtpcmcfajfnpjeaaGreatDoor
open Go.RowKit Go.Lamb
attribute [local go_sem] advO_skip advO_reg advO_seq advO_block advO_exit advO_endb advO_opsNil advO_ops advG_yes advG_no advG_none advS_some advS_none advO_cond advO_loop advO_dreg advO_ret advO_bad advO_inv advO_nil advO_zero wantedV Lamb.step ev_t ev_k put_some put_none argEnv popTo cellsAt V.cellsV V.rows V.sub V.toC toCs fillV bytesC byteRows appV rowsV boundV boundL binV binInt binStr eqC eqL V.isNil leaves V.leaf Ins.quiet Ins.pure List.getD_cons_zero List.getD_cons_succ List.getD_nil List.all_cons List.all_nil List.length_cons List.length_nil List.take_succ_cons List.take_zero List.drop_succ_cons List.drop_zero List.cons_append List.nil_append List.append_nil List.append_assoc List.map_cons List.map_nil List.getElem?_cons_zero List.getElem?_cons_succ List.length_append List.length_set hget0 hget hset0 hset hsets hgs0 hgs hss0 hss List.set_cons_zero List.set_cons_succ List.forall_mem_cons List.not_mem_nil false_implies implies_true Option.map_some Bool.and_true Bool.true_and Bool.not_not Bool.not_true Bool.not_false Bool.and_self Bool.or_true Bool.true_or Bool.or_false Bool.false_or Bool.and_false Bool.false_and Bool.false_eq_true beq_self_eq_true and_self and_true true_and if_true if_false Nat.zero_add Nat.add_zero Nat.le_refl Int.toNat_natCast decide_true decide_false beq_t beq_f List.length_map List.getElem?_map I S B opsC toksC OpT.v OpT.cs OpT.zero Tok.v Tok.cs Pre.v Pre.cs_eq k_mk name_mk n_mk l_mk pos_mk Pre.app applyL natCast0 natCast1 natCast2 AOp.o AOp.m AOp.f AOp.l AOp.d AOp.n AOp.x AOp.s AOp.k AOp.y AOp.z EOp.q low_c low_void low_any low_csl low_nilf low_ptr low_osl low_agg low_tup low_fn resEval advPO_nil advPO_loud advPO_quiet pL_yes pL_no pLS_some pLS_none pQ_yes pQ_no pQS_some pQS_loud eq_self Nat.sub_zero
def wrC (l : List OpT) (A : V) (v : Nat) (s : List UInt8) : Blk := .cells [.c (opsC l), A, .osl v (byteRows s)] (some 196)
def wrY (s : List UInt8) : Blk := .spare 5 1 s.length
abbrev wrs (σ : H) (b v : Nat) (l : List OpT) (A : V) (s : List UInt8) : H := rs σ b v (wrC l A v s) (wrY s)
theorem wrs_ok {σ : H} {b v : Nat} (D : Two σ b v) {X Y : Blk} (h : H.ok (rs σ b v X Y)) (l : List OpT) (s : List UInt8) : H.ok (wrs σ b v l (.ptr b 1) s) :=
  rs_ok D h (fun cs tg hc x hx => by
    unfold wrC at hc
    injection hc with hc _
    subst hc
    simp only [List.mem_cons, List.not_mem_nil, or_false] at hx
    rcases hx with rfl | rfl | rfl
    · exact .c _
    · exact .ptr D.lb
    · exact .osl D.lv) (fun cs tg hc => by unfold wrY at hc; cases hc)
theorem copyCheckW (w0 : World) (σ : H) (b v : Nat) (D : Two σ b v) (l : List OpT) (A : V) (hA : A = .c .nilp ∨ A = .ptr b 1) (s : List UInt8) :
    DC Tryz.prog w0 175 [.ptr b 1] (wrs σ b v l A s) (Same (.tup []) (wrs σ b v l (.ptr b 1) s)) :=
  (copyCheckD w0 _ b _ A _ (rs_b D _ _) hA).mono fun d σ' ⟨h1, h2⟩ => ⟨h1, by rw [h2]; exact rs_sb D _ _ _⟩
theorem wrs_push (σ : H) (b v : Nat) (l : List OpT) (A : V) (s t : List UInt8) : wrs σ b v l A (s ++ t) = rs σ b v (.cells [.c (opsC l), A, .osl v (byteRows s ++ byteRows t)] (some 196)) (.spare 5 1 (s.length + t.length)) := by
  show rs σ b v (wrC l A v (s ++ t)) (wrY (s ++ t)) = _
  simp only [wrC, wrY, byteRows, List.map_append, List.length_append]
attribute [local go_sem] wrC wrY rs_len rs_g0 rs_g rs_s0 rs_s rs_sv
theorem builder_WriteString (w0 : World) (σ : H) (b v : Nat) (D : Two σ b v) (l : List OpT) (A : V) (hA : A = .c .nilp ∨ A = .ptr b 1) (s t : List UInt8) (hn : s.length + t.length ≤ 100000000) :
    DC Tryz.prog w0 86 [.ptr b 1, S t] (wrs σ b v l A s) (Same (.tup [I t.length, .c .nili]) (wrs σ b v l (.ptr b 1) (s ++ t))) := by
  refine k86.go rfl (fun hok hsz => ?_)
  have hok2 := wrs_ok D hok l (s ++ t)
  rw [wrs_push] at hok2 ⊢
  have hl1 : (byteRows s).length = s.length := by simp [byteRows]
  have hl2 : (byteRows t).length = t.length := by simp [byteRows]
  have hr : ∀ r ∈ t.map (fun b => [C.int .u8 b.toNat]), r.length = 1 := fun r hr => by
    obtain ⟨c, _, rfl⟩ := List.mem_map.1 hr
    rfl
  have hb1 : (s.length + t.length) * 1 ≤ 140737488355328 := by omega
  have hb2 : s.length + t.length ≤ 140737488355328 := by omega
  ((try refine W.a ?_); simp only [go_sem, seval, reduceCtorEq, c86, rsA D])
  (refine W.c1 (copyCheckW w0 σ b v D l A hA s) ?_; simp only [go_sem, seval, reduceCtorEq])
  ((try refine W.a ?_); simp only [go_sem, seval, reduceCtorEq, rsA D, hl1, hl2, eq_true hr, hb1, hb2])
  (refine W.fs (hok2) (by simp only [r86, go_sem, seval, reduceCtorEq]; rfl) ?_; simp only [resV]; try exact V.wk.rfl _)
theorem builder_WriteByte (w0 : World) (σ : H) (b v : Nat) (D : Two σ b v) (l : List OpT) (A : V) (hA : A = .c .nilp ∨ A = .ptr b 1) (s : List UInt8) (t : UInt8) (hn : s.length + 1 ≤ 100000000) :
    DC Tryz.prog w0 242 [.ptr b 1, .c (.int .u8 t.toNat)] (wrs σ b v l A s) (Same (.c .nili) (wrs σ b v l (.ptr b 1) (s ++ [t]))) := by
  refine k242.go rfl (fun hok hsz => ?_)
  have hok2 := wrs_ok D hok l (s ++ [t])
  rw [wrs_push] at hok2 ⊢
  have hl1 : (byteRows s).length = s.length := by simp [byteRows]
  have hb1 : (s.length + 1) * 1 ≤ 140737488355328 := by omega
  have hb2 : s.length + 1 ≤ 140737488355328 := by omega
  ((try refine W.a ?_); simp only [go_sem, seval, reduceCtorEq, c242, rsA D])
  (refine W.c1 (copyCheckW w0 σ b v D l A hA s) ?_; simp only [go_sem, seval, reduceCtorEq])
  ((try refine W.a ?_); simp only [go_sem, seval, reduceCtorEq, rsA D, hl1, hb1, hb2])
  (refine W.fs (hok2) (by simp only [r242, go_sem, seval, reduceCtorEq]; rfl) ?_; simp only [resV]; try exact V.wk.rfl _)
end Go.Proofs.YtpcmcfajfnpjeaaGreatDoor
namespace Go.Proofs.YtpcmcfajfnpjeaaGreatDoor
open Go.RowKit Go.Lamb
theorem cells_byte : Tryz.prog.cellsOf 5 = 1 := by kernel_rfl
set_option maxHeartbeats 1000000 in
set_option maxRecDepth 100000 in
theorem string_row (w : World) (p g cap cells : Nat) (s : List UInt8) (h0 : s ≠ []) (hc : cap ≠ 0) (hn : s.length ≤ cells) (h63 : s.length ≤ 9223372036854775807)
    (h2 : w.cell? ⟨p, 2, none⟩ = some (.slice (some ⟨g, 0, none⟩) s.length cap)) (hsh : w.shape? g = some (5, cells)) (hcell : ∀ j x, s[j]? = some x → w.cell? ((⟨g, 0, none⟩ : Addr).add j) = some (.int .u8 x.toNat)) :
    Calls Tryz.prog 87 #[.pointer (some ⟨p, 1, none⟩)] w fun e w' => e = .returned (.string ⟨s.toArray⟩) ∧ w' = w.drew.freeze ⟨g, 0, none⟩ s.length := by
  have c1 : w.drew.cell? ⟨p, 2, none⟩ = some (.slice (some ⟨g, 0, none⟩) s.length cap) := h2
  have hSD : (Builtin.unsafeSliceData_ #[121] 212 #[.slice (some ⟨g, 0, none⟩) s.length cap]).run Tryz.prog w.drew = .ok (.pointer (some ⟨g, 0, none⟩)) w.drew :=
    Lib.run_unsafeSliceData_row _ _ _ _ _ _ hc
  have hUS : (Builtin.unsafeString_ #[212, 3] 9 #[.pointer (some ⟨g, 0, none⟩), .int .i64 s.length]).run Tryz.prog w.drew = .ok (.string ⟨s.toArray⟩) (w.drew.freeze ⟨g, 0, none⟩ s.length) :=
    Lib.run_unsafeString_row w.drew 212 3 9 5 Tryz.underlying212 cells_byte g cells hsh s h0 hn h63 hcell
  go_enter Tryz.func87, Tryz.ntmps87
  go_wp2
  go_region
  all_goals (go_wp2; go_ret; exact ⟨rfl, rfl⟩)
theorem rc_sl {m : Mem} {rows : List (List C)} {B : Option Addr} {n cap : Nat} (h : RC m (.sl rows) (.slice B n cap)) : n = rows.length ∧ ∃ (sz : Nat) (xs : List Value), (∀ r ∈ rows, r.length = sz) ∧ xs.length = rows.length * sz ∧ (rows ≠ [] → ∃ b o, B = some ⟨b, o, none⟩ ∧ ∀ k, k < xs.length → m b (o + k) = xs[k]?) ∧ ∀ i (hi : i < rows.length) j (hj : j < rows[i].length), RC m rows[i][j] (xs.getD (i * sz + j) undef) := by
  cases h with
  | sl _ sz _ _ xs z0 z1 z2 z3 z4 z5 => exact ⟨rfl, sz, xs, z0, z3, z4, z5⟩
theorem builder_String (w0 : World) (σ : H) (b v : Nat) (D : Two σ b v) (l : List OpT) (A : V) (s : List UInt8) (h0 : s ≠ []) :
    DC Tryz.prog w0 87 [.ptr b 1] (wrs σ b v l A s) (fun d σ' => d = S s ∧ σ' = rs σ b v (wrC l A v s) .gone) := by
  refine ⟨enters_fn Tryz.func87 (by kernel_rfl) rfl, fun κ w vs hrep hfit => ?_⟩
  obtain ⟨p, ys, rfl, hp, hfit⟩ := hfit.cons_inv
  have := hfit.nil_inv
  subst this
  have hvp : p = .pointer (some ⟨κ.pos b, 1, none⟩) := by cases hp; rfl
  subst hvp
  have hgb := rs_b D (wrC l A v s) (wrY s)
  have hgv := rs_v D (wrC l A v s) (wrY s)
  obtain ⟨hltb, hb'⟩ := List.getElem?_eq_some_iff.1 hgb
  obtain ⟨hltv, hv'⟩ := List.getElem?_eq_some_iff.1 hgv
  have hB := hrep.blk b hltb
  have hV := hrep.blk v hltv
  rw [hb'] at hB
  rw [hv'] at hV
  obtain ⟨us, T, k1, k2, k3⟩ := hB.row
  have k2 : us.size = 3 := k2
  have r2 := (k3 2 (by simp)).2
  have hlr : (byteRows s).length = s.length := by simp [byteRows]
  have hpos : 0 < s.length := List.length_pos_iff.2 h0
  have hu2 : us[2]? = some (us.getD 2 undef) := by rw [Array.getElem?_eq_getElem (by omega)]; simp [Array.getD, k2]
  have hc2 : w.cell? ⟨κ.pos b, 2, none⟩ = us[2]? := Lib.cell_of_heap k1 2
  generalize us.getD 2 undef = u at r2 hu2
  cases r2 with
  | osl hr q1 q2 q3 q4 q5 =>
    have hfr : κ.fr v = some s.length := hV.fr
    rw [hfr] at q2
    injection q2 with q2
    subst q2
    have hu := q4 hlr
    rcases hV.row with ⟨hz, _⟩ | ⟨xs, hown⟩
    · omega
    rcases hown.2 with ⟨_, hz⟩ | ⟨g, cap, cur, hsv, hbg, hg, hnc, hcm, hcs, htake⟩
    · omega
    rw [hsv] at hu
    subst hu
    have hcap : cap ≠ 0 := by omega
    have hcell : ∀ j x, s[j]? = some x → w.cell? ((⟨g, 0, none⟩ : Addr).add j) = some (.int .u8 x.toNat) := fun j x hx => by
      obtain ⟨hj, hx⟩ := List.getElem?_eq_some_iff.1 hx
      rw [Lib.add_plain, Nat.zero_add]
      obtain ⟨_, sz, ws, z0, z3, z4, z5⟩ := rc_sl hr
      obtain ⟨b', o', hA', hm⟩ := z4 (fun e => by rw [e] at hlr; simp at hlr; omega)
      injection hA' with hA'
      injection hA' with e1 e2
      subst e1 e2
      have hrj : (byteRows s)[j]'(by omega) = [C.int .u8 x.toNat] := by simp only [byteRows, List.getElem_map, hx]
      have hsz : sz = 1 := by
        have := z0 _ (List.getElem_mem (show j < (byteRows s).length by omega))
        rw [hrj] at this
        exact this.symm
      subst hsz
      have hjw : j < ws.length := by rw [z3]; omega
      have h5 := z5 j (by omega) 0 (by rw [hrj]; exact Nat.zero_lt_one)
      have h7 := hm j hjw
      rw [List.getElem?_eq_getElem hjw, Nat.zero_add] at h7
      rw [hrep.mem _ _ _ h7]
      have e3 : ws.getD (j * 1 + 0) undef = ws[j] := by simp [List.getD, hjw]
      rw [e3] at h5
      simp only [hrj, List.getElem_cons_zero] at h5
      generalize ws[j] = y at h5
      cases h5
      rfl
    unfold maxLen at hcm
    refine (string_row w (κ.pos b) g cap cur.size s h0 hcap (by omega) (by omega) (by rw [hc2, hu2]) (by simp [World.shape?, hg]) hcell).mono ?_
    rintro e w' ⟨rfl, rfl⟩
    have hd : Rep w0 κ (wrs σ b v l A s) w.drew := hrep.drew
    have hgone := hd.gone (n := s.length) hgv (show heldBy (κ.sv v) = some g from by rw [hsv]; cases cap with | zero => exact absurd rfl hcap | succ c => rfl) hbg
    rw [rs_sv] at hgone
    exact ⟨_, S s, _, κ, rfl, ⟨rfl, rfl⟩, K.le_refl κ, hgone, .c (.str s (by unfold maxLen; omega))⟩
set_option maxHeartbeats 1000000 in
set_option maxRecDepth 100000 in
theorem string_nil (w : World) (p : Nat) (h2 : w.cell? ⟨p, 2, none⟩ = some (.slice none 0 0)) :
    Calls Tryz.prog 87 #[.pointer (some ⟨p, 1, none⟩)] w fun e w' => e = .returned (.string .empty) ∧ w' = w.drew := by
  have c1 : w.drew.cell? ⟨p, 2, none⟩ = some (.slice none 0 0) := h2
  have hSD : (Builtin.unsafeSliceData_ #[121] 212 #[.slice none 0 0]).run Tryz.prog w.drew = .ok (.pointer none) w.drew := rfl
  have hUS : (Builtin.unsafeString_ #[212, 3] 9 #[.pointer none, .int .i64 0]).run Tryz.prog w.drew = .ok (.string .empty) w.drew := Lib.run_unsafeString_none w.drew _ _ _ none
  go_enter Tryz.func87, Tryz.ntmps87
  go_wp2
  go_region
  all_goals (go_wp2; go_ret; exact ⟨rfl, rfl⟩)
end Go.Proofs.YtpcmcfajfnpjeaaGreatDoor
namespace Go.Proofs.YtpcmcfajfnpjeaaGreatDoor
open Go.RowKit Go.Lamb
theorem lies_builderB : liesAt Tryz.prog Tryz.prog.depth 123 (2 / Tryz.prog.cellsOf 123) 0 123 1 = true := by kernel_rfl
set_option maxHeartbeats 1000000 in
set_option maxRecDepth 100000 in
theorem copyCheck_usedB (w : World) (p : Nat) (h0 : w.cell? ⟨p, 0, none⟩ = some (.pointer (some ⟨p, 0, none⟩))) :
    Calls Tryz.prog 175 #[.pointer (some ⟨p, 0, none⟩)] w fun e w' => e = .returned (.tuple #[]) ∧ w' = w := by
  obtain ⟨j, hj, _⟩ := Option.map_eq_some_iff.1 size_builder
  go_enter Tryz.func175, Tryz.ntmps175
  go_wp2
  rw [Lib.run_neq_ptr_same w _ Tryz.underlying120 hj]
  go_wp2
  go_end0
  exact ⟨rfl, rfl⟩
set_option maxHeartbeats 1000000 in
set_option maxRecDepth 100000 in
theorem copyCheck_freshB (w : World) (p : Nat) (h0 : w.cell? ⟨p, 0, none⟩ = some (.pointer none)) (hsh : w.shape? p = some (123, 2)) (hfz : w.frozen? ⟨p, 0, none⟩ = false) :
    Calls Tryz.prog 175 #[.pointer (some ⟨p, 0, none⟩)] w fun e w' => e = .returned (.tuple #[]) ∧ w' = w.setCell ⟨p, 0, none⟩ (.pointer (some ⟨p, 0, none⟩)) := by
  obtain ⟨j, hj, hjs⟩ := Option.map_eq_some_iff.1 size_builder
  go_enter Tryz.func175, Tryz.ntmps175
  go_wp2
  rw [Lib.run_to_unsafe w ⟨p, 0, none⟩ Tryz.underlying120 Tryz.underlying265 hj (by rw [hjs]; decide) hsh (show 0 < 2 by decide)]
  simp only [Result.andThen]
  rw [Oper.upon_value]
  go_wp2
  rw [run_callFunc_extern Tryz.func249 (by kernel_rfl) (by kernel_rfl) (by kernel_rfl) (e := Extern.AbiNoEscape.same) (by kernel_rfl)]
  rw [Lib.run_noEscape]
  simp only [Result.andThen]
  rw [Oper.upon_value]
  go_wp2
  rw [Lib.run_from_unsafe w ⟨p, 0, none⟩ Tryz.underlying265 Tryz.underlying120 hj hsh lies_builderB]
  simp only [Result.andThen]
  rw [Oper.upon_value]
  go_wp2
  go_end0
  exact ⟨rfl, rfl⟩
theorem copyCheckB (w0 : World) (σ : H) (b : Nat) (A y : V) (hb : σ[b]? = some (.cells [A, y] (some 123))) (hA : A = .c .nilp ∨ A = .ptr b 0) :
    DC Tryz.prog w0 175 [.ptr b 0] σ (fun d σ' => d = .tup [] ∧ σ' = σ.set b (.cells [.ptr b 0, y] (some 123))) := by
  refine ⟨enters_fn Tryz.func175 (by kernel_rfl) rfl, fun κ w vs hrep hfit => ?_⟩
  obtain ⟨v, ys, rfl, hv, hfit⟩ := hfit.cons_inv
  have := hfit.nil_inv
  subst this
  obtain ⟨hlt, hb'⟩ := List.getElem?_eq_some_iff.1 hb
  have hblk := hrep.blk b hlt
  rw [hb'] at hblk
  obtain ⟨us, T, k1, k2, k3⟩ := hblk.row
  obtain ⟨us', k4⟩ := hblk.ty _ rfl
  have hT : T = 123 := by rw [k1] at k4; injection k4 with k4; injection k4
  subst hT
  have k2 : us.size = 2 := k2
  have hc1 : w.cell? ⟨κ.pos b, 0, none⟩ = us[0]? := Lib.cell_of_heap k1 0
  have hu1 : us[0]? = some (us.getD 0 undef) := by rw [Array.getElem?_eq_getElem (by omega)]; simp [Array.getD, k2]
  have h1 := (k3 0 (by simp)).2
  have hvp : v = .pointer (some ⟨κ.pos b, 0, none⟩) := by cases hv; rfl
  subst hvp
  have hn : κ.n = σ.length := hrep.n
  rcases hA with rfl | rfl
  · have h2 : us.getD 0 undef = .pointer none := by
      generalize us.getD 0 undef = z at h1
      cases h1 with | c h => cases h; rfl
    refine (copyCheck_freshB w (κ.pos b) (by rw [hc1, hu1, h2]) (by simp [World.shape?, k1, k2]) (Lib.frozen_of_heap k1 0)).mono ?_
    rintro e w' ⟨rfl, rfl⟩
    refine ⟨_, .tup [], _, κ, rfl, ⟨rfl, rfl⟩, K.le_refl κ, ?_, .tup rfl (fun j hj => absurd hj (Nat.not_lt_zero _))⟩
    rw [setCell_row k1]
    have hw := hrep.wrote (cs' := [.ptr b 0, y]) (vs := (us.setIfInBounds 0 (.pointer (some ⟨κ.pos b, 0, none⟩))).toList) hb (by
      have l2 := (k3 1 (by simp)).1
      simp only [List.getElem_cons_zero, List.getElem_cons_succ] at l2
      unfold leaves
      simp only [List.all_cons, List.all_nil, l2]
      rfl) (by simp [k2]) (fun j hj => by
      have r2 := (k3 1 (by simp)).2
      match j, hj with
      | 0, _ => simpa [List.getD, k2] using RV.ptr (κ := κ) (b := b) (o := 0) (by omega) hblk.fr
      | 1, _ => simpa [List.getD, Array.getD, k2] using r2)
    rwa [Array.toArray_toList] at hw
  · have h2 : us.getD 0 undef = .pointer (some ⟨κ.pos b, 0, none⟩) := by
      generalize us.getD 0 undef = z at h1
      cases h1; rfl
    refine (copyCheck_usedB w (κ.pos b) (by rw [hc1, hu1, h2])).mono ?_
    rintro e w' ⟨rfl, rfl⟩
    refine ⟨_, .tup [], σ, κ, rfl, ⟨rfl, ?_⟩, K.le_refl κ, hrep, .tup rfl (fun j hj => absurd hj (Nat.not_lt_zero _))⟩
    apply List.ext_getElem?
    intro i
    rw [List.getElem?_set]
    by_cases hi : b = i
    · subst hi; rw [if_pos rfl, if_pos hlt, hb]
    · rw [if_neg hi]
set_option maxHeartbeats 1000000 in
set_option maxRecDepth 100000 in
theorem string_rowB (w : World) (p g cap cells : Nat) (s : List UInt8) (h0 : s ≠ []) (hc : cap ≠ 0) (hn : s.length ≤ cells) (h63 : s.length ≤ 9223372036854775807)
    (h2 : w.cell? ⟨p, 1, none⟩ = some (.slice (some ⟨g, 0, none⟩) s.length cap)) (hsh : w.shape? g = some (5, cells)) (hcell : ∀ j x, s[j]? = some x → w.cell? ((⟨g, 0, none⟩ : Addr).add j) = some (.int .u8 x.toNat)) :
    Calls Tryz.prog 87 #[.pointer (some ⟨p, 0, none⟩)] w fun e w' => e = .returned (.string ⟨s.toArray⟩) ∧ w' = w.drew.freeze ⟨g, 0, none⟩ s.length := by
  have c1 : w.drew.cell? ⟨p, 1, none⟩ = some (.slice (some ⟨g, 0, none⟩) s.length cap) := h2
  have hSD : (Builtin.unsafeSliceData_ #[121] 212 #[.slice (some ⟨g, 0, none⟩) s.length cap]).run Tryz.prog w.drew = .ok (.pointer (some ⟨g, 0, none⟩)) w.drew :=
    Lib.run_unsafeSliceData_row _ _ _ _ _ _ hc
  have hUS : (Builtin.unsafeString_ #[212, 3] 9 #[.pointer (some ⟨g, 0, none⟩), .int .i64 s.length]).run Tryz.prog w.drew = .ok (.string ⟨s.toArray⟩) (w.drew.freeze ⟨g, 0, none⟩ s.length) :=
    Lib.run_unsafeString_row w.drew 212 3 9 5 Tryz.underlying212 cells_byte g cells hsh s h0 hn h63 hcell
  go_enter Tryz.func87, Tryz.ntmps87
  go_wp2
  go_region
  all_goals (go_wp2; go_ret; exact ⟨rfl, rfl⟩)
theorem builder_StringB (w0 : World) (σ : H) (b v : Nat) (A : V) (s : List UInt8) (h0 : s ≠ []) (hgb : σ[b]? = some (.cells [A, .osl v (byteRows s)] (some 123))) (hgv : σ[v]? = some (.spare 5 1 s.length)) :
    DC Tryz.prog w0 87 [.ptr b 0] σ (fun d σ' => d = S s ∧ σ' = σ.set v .gone) := by
  refine ⟨enters_fn Tryz.func87 (by kernel_rfl) rfl, fun κ w vs hrep hfit => ?_⟩
  obtain ⟨p, ys, rfl, hp, hfit⟩ := hfit.cons_inv
  have := hfit.nil_inv
  subst this
  have hvp : p = .pointer (some ⟨κ.pos b, 0, none⟩) := by cases hp; rfl
  subst hvp
  obtain ⟨hltb, hb'⟩ := List.getElem?_eq_some_iff.1 hgb
  obtain ⟨hltv, hv'⟩ := List.getElem?_eq_some_iff.1 hgv
  have hB := hrep.blk b hltb
  have hV := hrep.blk v hltv
  rw [hb'] at hB
  rw [hv'] at hV
  obtain ⟨us, T, k1, k2, k3⟩ := hB.row
  have k2 : us.size = 2 := k2
  have r2 := (k3 1 (by simp)).2
  have hlr : (byteRows s).length = s.length := by simp [byteRows]
  have hpos : 0 < s.length := List.length_pos_iff.2 h0
  have hu2 : us[1]? = some (us.getD 1 undef) := by rw [Array.getElem?_eq_getElem (by omega)]; simp [Array.getD, k2]
  have hc2 : w.cell? ⟨κ.pos b, 1, none⟩ = us[1]? := Lib.cell_of_heap k1 1
  generalize us.getD 1 undef = u at r2 hu2
  cases r2 with
  | osl hr q1 q2 q3 q4 q5 =>
    have hfr : κ.fr v = some s.length := hV.fr
    rw [hfr] at q2
    injection q2 with q2
    subst q2
    have hu := q4 hlr
    rcases hV.row with ⟨hz, _⟩ | ⟨xs, hown⟩
    · omega
    rcases hown.2 with ⟨_, hz⟩ | ⟨g, cap, cur, hsv, hbg, hg, hnc, hcm, hcs, htake⟩
    · omega
    rw [hsv] at hu
    subst hu
    have hcap : cap ≠ 0 := by omega
    have hcell : ∀ j x, s[j]? = some x → w.cell? ((⟨g, 0, none⟩ : Addr).add j) = some (.int .u8 x.toNat) := fun j x hx => by
      obtain ⟨hj, hx⟩ := List.getElem?_eq_some_iff.1 hx
      rw [Lib.add_plain, Nat.zero_add]
      obtain ⟨_, sz, ws, z0, z3, z4, z5⟩ := rc_sl hr
      obtain ⟨b', o', hA', hm⟩ := z4 (fun e => by rw [e] at hlr; simp at hlr; omega)
      injection hA' with hA'
      injection hA' with e1 e2
      subst e1 e2
      have hrj : (byteRows s)[j]'(by omega) = [C.int .u8 x.toNat] := by simp only [byteRows, List.getElem_map, hx]
      have hsz : sz = 1 := by
        have := z0 _ (List.getElem_mem (show j < (byteRows s).length by omega))
        rw [hrj] at this
        exact this.symm
      subst hsz
      have hjw : j < ws.length := by rw [z3]; omega
      have h5 := z5 j (by omega) 0 (by rw [hrj]; exact Nat.zero_lt_one)
      have h7 := hm j hjw
      rw [List.getElem?_eq_getElem hjw, Nat.zero_add] at h7
      rw [hrep.mem _ _ _ h7]
      have e3 : ws.getD (j * 1 + 0) undef = ws[j] := by simp [List.getD, hjw]
      rw [e3] at h5
      simp only [hrj, List.getElem_cons_zero] at h5
      generalize ws[j] = y at h5
      cases h5
      rfl
    unfold maxLen at hcm
    refine (string_rowB w (κ.pos b) g cap cur.size s h0 hcap (by omega) (by omega) (by rw [hc2, hu2]) (by simp [World.shape?, hg]) hcell).mono ?_
    rintro e w' ⟨rfl, rfl⟩
    have hd : Rep w0 κ σ w.drew := hrep.drew
    have hgone := hd.gone (n := s.length) hgv (show heldBy (κ.sv v) = some g from by rw [hsv]; cases cap with | zero => exact absurd rfl hcap | succ c => rfl) hbg
    exact ⟨_, S s, _, κ, rfl, ⟨rfl, rfl⟩, K.le_refl κ, hgone, .c (.str s (by unfold maxLen; omega))⟩
end Go.Proofs.YtpcmcfajfnpjeaaGreatDoor
namespace Go.Proofs.YtpcmcfajfnpjeaaGreatDoor
open Go.RowKit Go.Lamb
attribute [local go_sem] advO_skip advO_reg advO_seq advO_block advO_exit advO_endb advO_opsNil advO_ops advG_yes advG_no advG_none advS_some advS_none advO_cond advO_loop advO_dreg advO_ret advO_bad advO_inv advO_nil advO_zero wantedV Lamb.step ev_t ev_k put_some put_none argEnv popTo cellsAt V.cellsV V.rows V.sub V.toC toCs fillV bytesC byteRows appV rowsV boundV boundL binV binInt binStr eqC eqL V.isNil leaves V.leaf Ins.quiet Ins.pure List.getD_cons_zero List.getD_cons_succ List.getD_nil List.all_cons List.all_nil List.length_cons List.length_nil List.take_succ_cons List.take_zero List.drop_succ_cons List.drop_zero List.cons_append List.nil_append List.append_nil List.append_assoc List.map_cons List.map_nil List.getElem?_cons_zero List.getElem?_cons_succ List.length_append List.length_set hget0 hget hset0 hset hsets hgs0 hgs hss0 hss List.set_cons_zero List.set_cons_succ List.forall_mem_cons List.not_mem_nil false_implies implies_true Option.map_some Bool.and_true Bool.true_and Bool.not_not Bool.not_true Bool.not_false Bool.and_self Bool.or_true Bool.true_or Bool.or_false Bool.false_or Bool.and_false Bool.false_and Bool.false_eq_true beq_self_eq_true and_self and_true true_and if_true if_false Nat.zero_add Nat.add_zero Nat.le_refl Int.toNat_natCast decide_true decide_false beq_t beq_f List.length_map List.getElem?_map I S B opsC toksC OpT.v OpT.cs OpT.zero Tok.v Tok.cs Pre.v Pre.cs_eq k_mk name_mk n_mk l_mk pos_mk Pre.app applyL natCast0 natCast1 natCast2 AOp.o AOp.m AOp.f AOp.l AOp.d AOp.n AOp.x AOp.s AOp.k AOp.y AOp.z EOp.q low_c low_void low_any low_csl low_nilf low_ptr low_osl low_agg low_tup low_fn resEval advPO_nil advPO_loud advPO_quiet pL_yes pL_no pLS_some pLS_none pQ_yes pQ_no pQS_some pQS_loud eq_self Nat.sub_zero
section
attribute [local go_sem] Typ.v Typ.cs_eq tk_mk tname_mk tn_mk tl_mk tysC KdT.v KdT.cs NmT.v NmT.cs kdsC nmsC Sg.v Sent.v

end
section
attribute [local go_sem] Typ.v Typ.cs_eq tk_mk tname_mk tn_mk tl_mk tysC KdT.v KdT.cs NmT.v NmT.cs kdsC nmsC Sg.v Sent.v strsC

end
end Go.Proofs.YtpcmcfajfnpjeaaGreatDoor
namespace Go.Proofs.YtpcmcfajfnpjeaaGreatDoor
open Go.RowKit Go.Lamb
attribute [local go_sem] Typ.v Typ.cs_eq tk_mk tname_mk tn_mk tl_mk tysC KdT.v KdT.cs NmT.v NmT.cs kdsC nmsC Sg.v Sent.v strsC

def outB (b : Nat) (s : Sg) : Blk := .cells [.osl (b + 1) (s.kinds.map KdT.cs), .osl (b + 2) (s.types.map NmT.cs), .osl (b + 3) (s.ops.map OpT.cs)]
attribute [local go_sem] outB rf_len rf_g0 rf_g rf_t0 rf_t
end Go.Proofs.YtpcmcfajfnpjeaaGreatDoor
namespace Go.Lamb
open Go Go.RowKit
end Go.Lamb
namespace Go.Proofs.YtpcmcfajfnpjeaaGreatDoor
open Go.RowKit Go.Lamb
attribute [local go_sem] Typ.v Typ.cs_eq tk_mk tname_mk tn_mk tl_mk tysC KdT.v KdT.cs NmT.v NmT.cs kdsC nmsC Sg.v Sent.v strsC

end Go.Proofs.YtpcmcfajfnpjeaaGreatDoor
namespace Go.Proofs.YtpcmcfajfnpjeaaGreatDoor
open Go.RowKit Go.Lamb
def c295 : AC := .seq (.reg [.o 2 (.mov (.k (.csl [])))]) (.seq (.reg [.o 3 (.mov (.k (.c (.int .i64 0))))]) (.seq (.seq (.reg [.m 9 0, .o 10 (.lenr (.t 9)), .o 11 (.mov (.k (.c (.int .i64 0))))]) (.block 0 (.loop (.seq (.reg [.o 12 (.bin .lss (.t 11) (.t 10))]) (.seq (.cond (.t 12) (.skip) (.exit 0)) (.seq (.block 1 (.seq (.reg [.o 13 (.iadd 1 (.t 9) (.t 11)), .l 14 13, .m 5 14]) (.seq (.reg [.m 15 3, .m 16 5, .o 17 (.lenr (.t 16)), .o 18 (.bin .add (.t 15) (.t 17)), .m 3 18]) (.seq (.reg [.m 19 3, .o 20 (.bin .lss (.t 19) (.k (.c (.int .i64 0))))]) (.cond (.t 20) (.reg [.o 21 (.bad), ⟨none, .bad, none⟩]) (.skip)))))) (.reg [.o 22 (.bin .add (.t 11) (.k (.c (.int .i64 1)))), .m 11 22]))))))) (.seq (.reg [.m 23 3, .k 24 342 [(.k (.csl [])), (.t 23)], .m 6 24]) (.seq (.seq (.reg [.m 25 0, .o 26 (.lenr (.t 25)), .o 27 (.mov (.k (.c (.int .i64 0))))]) (.block 2 (.loop (.seq (.reg [.o 28 (.bin .lss (.t 27) (.t 26))]) (.seq (.cond (.t 28) (.skip) (.exit 2)) (.seq (.block 3 (.seq (.reg [.o 29 (.iadd 1 (.t 25) (.t 27)), .l 30 29, .m 8 30]) (.reg [.m 31 6, .m 32 8, .o 33 (.app 68 5 72 (.t 31) (.t 32)), .m 6 33]))) (.reg [.o 34 (.bin .add (.t 27) (.k (.c (.int .i64 1)))), .m 27 34]))))))) (.seq (.reg [.m 35 6, .m 2 35]) (.ret))))))
def r295 : List ResV := [.tmp 2]
theorem k295 : CodeIs Tryz.prog 295 1 Tryz.f295 c295 r295 := .auto Tryz.func295
end Go.Proofs.YtpcmcfajfnpjeaaGreatDoor
namespace Go.Proofs.YtpcmcfajfnpjeaaGreatDoor
open Go.RowKit Go.Lamb
attribute [local go_sem] advO_skip advO_reg advO_seq advO_block advO_exit advO_endb advO_opsNil advO_ops advG_yes advG_no advG_none advS_some advS_none advO_cond advO_loop advO_dreg advO_ret advO_bad advO_inv advO_nil advO_zero wantedV Lamb.step ev_t ev_k put_some put_none argEnv popTo cellsAt V.cellsV V.rows V.sub V.toC toCs fillV bytesC byteRows appV rowsV boundV boundL binV binInt binStr eqC eqL V.isNil leaves V.leaf Ins.quiet Ins.pure List.getD_cons_zero List.getD_cons_succ List.getD_nil List.all_cons List.all_nil List.length_cons List.length_nil List.take_succ_cons List.take_zero List.drop_succ_cons List.drop_zero List.cons_append List.nil_append List.append_nil List.append_assoc List.map_cons List.map_nil List.getElem?_cons_zero List.getElem?_cons_succ List.length_append List.length_set hget0 hget hset0 hset hsets hgs0 hgs hss0 hss List.set_cons_zero List.set_cons_succ List.forall_mem_cons List.not_mem_nil false_implies implies_true Option.map_some Bool.and_true Bool.true_and Bool.not_not Bool.not_true Bool.not_false Bool.and_self Bool.or_true Bool.true_or Bool.or_false Bool.false_or Bool.and_false Bool.false_and Bool.false_eq_true beq_self_eq_true and_self and_true true_and if_true if_false Nat.zero_add Nat.add_zero Nat.le_refl Int.toNat_natCast decide_true decide_false beq_t beq_f List.length_map List.getElem?_map I S B opsC toksC OpT.v OpT.cs OpT.zero Tok.v Tok.cs Pre.v Pre.cs_eq k_mk name_mk n_mk l_mk pos_mk Pre.app applyL natCast0 natCast1 natCast2 AOp.o AOp.m AOp.f AOp.l AOp.d AOp.n AOp.x AOp.s AOp.k AOp.y AOp.z EOp.q low_c low_void low_any low_csl low_nilf low_ptr low_osl low_agg low_tup low_fn resEval advPO_nil advPO_loud advPO_quiet pL_yes pL_no pLS_some pLS_none pQ_yes pQ_no pQS_some pQS_loud eq_self Nat.sub_zero
section
attribute [local go_sem] Typ.v Typ.cs_eq tk_mk tname_mk tn_mk tl_mk tysC KdT.v KdT.cs NmT.v NmT.cs kdsC nmsC Sg.v Sent.v strsC

theorem nmInfo : (Tryz.prog.info? 68).map (fun i => (i.zero, i.size, i.bytes)) = some (some (.agg #[.string ⟨#[]⟩, .int .i64 0, .string ⟨#[]⟩, .int .i64 0, .slice none 0 0]), 5, 72) := by kernel_rfl
theorem made_rowN (w : World) (n : Nat) (hn : n ≤ 1000000) (zc : Array Value) (hz : zc.size = 5) :
    (w.alloc (.cells (Builtin.zeroCells zc n ++ Builtin.zeroCells zc (grownCap w n 0 68 - n)) 68)).drew.ownsRow w.heap.size 68 5 (.slice (some ⟨w.heap.size, 0, none⟩) 0 (grownCap w n 0 68)) 0 [] := by
  have hge := grownCap_ge w n 0 68
  refine ⟨by simp, .inr ⟨w.heap.size, _, _, rfl, Nat.le_refl _, heap_alloc_new w _, Nat.zero_le _, grownCap_le_maxLen w n 0 68 (by unfold maxLen; omega), ?_, by simp⟩⟩
  simp only [Array.size_append, size_zeroCells, hz]
  omega
set_option maxHeartbeats 4000000 in
set_option maxRecDepth 100000 in
theorem grow_nm (A : Option Addr) (n : Nat) (w : World) (hn : n ≤ 1000000) : Calls Tryz.prog 342 #[.slice A 0 0, .int .i64 n] w (fun e w' => ∃ v, e = .returned v ∧ Below w.heap.size w w' ∧ Roomy w w' 68 5 v) := by
  by_cases h0 : n = 0
  · subst h0
    cases A
    · go_enter Tryz.func342, Tryz.ntmps342
      go_wp2_with fail
      go_ret
      exact ⟨_, rfl, Below.refl _ _, .inl ⟨_, rfl⟩⟩
    · go_enter Tryz.func342, Tryz.ntmps342
      go_wp2_with fail
      go_ret
      exact ⟨_, rfl, Below.refl _ _, .inl ⟨_, rfl⟩⟩
  · obtain ⟨i0, hi0, hz0, hz1, hz2⟩ := info_parts nmInfo
    have h1 : ¬ ((n : Int) < 0) := by omega
    have h2 : (n : Int) > 0 := by omega
    have hw : IntKind.i64.wrap (n : Int) = n := by rw [wrap_in] <;> omega
    cases A
    case none =>
      have hr := Lib.run_append_grow_zeros (P := Tryz.prog) w 23 3 23 68 i0 _ .i64 .i64 Tryz.underlying23 Tryz.underlying3 hi0 hz0 none 0 0 [] (run_firstCells (by simp) (by simp)) n (by omega) (by rw [hz1]; decide) (by omega) (by omega) (by rw [hz2]; omega) (growslice_fits (by omega) (by rw [hz2]; omega))
      go_enter Tryz.func342, Tryz.ntmps342
      go_wp2_with (first
        | (at_builtin; refine Lib.wpList_append_run w rfl (.tmp 20) (.tmp 21) 23 3 rfl _ _ rfl rfl _ _ hr ?_))
      go_ret
      exact ⟨_, rfl, made_below w _, .inr (made_rowN w n hn _ rfl)⟩
    case some a =>
      have hr := Lib.run_append_grow_zeros (P := Tryz.prog) w 23 3 23 68 i0 _ .i64 .i64 Tryz.underlying23 Tryz.underlying3 hi0 hz0 (some a) 0 0 [] (run_firstCells (by simp) (by simp)) n (by omega) (by rw [hz1]; decide) (by omega) (by omega) (by rw [hz2]; omega) (growslice_fits (by omega) (by rw [hz2]; omega))
      go_enter Tryz.func342, Tryz.ntmps342
      go_wp2_with (first
        | (at_builtin; refine Lib.wpList_append_run w rfl (.tmp 20) (.tmp 21) 23 3 rfl _ _ rfl rfl _ _ hr ?_))
      go_ret
      exact ⟨_, rfl, made_below w _, .inr (made_rowN w n hn _ rfl)⟩
theorem slices_GrowN (w0 : World) (n : Nat) (hn : n ≤ 1000000) (σ : H) : DC Tryz.prog w0 342 [.csl [], I n] σ (Same (.osl σ.length []) (σ ++ [.spare 68 5 0])) := by
  refine DC.of_room (enters_fn Tryz.func342 (by kernel_rfl) rfl) fun κ w vs hrep hfit => ?_
  obtain ⟨v, ys, rfl, hv, hfit⟩ := hfit.cons_inv
  obtain ⟨u, zs, rfl, hu, hfit⟩ := hfit.cons_inv
  have := hfit.nil_inv
  subst this
  cases hv with
  | csl h1 =>
    rename_i A
    cases hu with
    | c hu =>
      cases hu with
      | int => exact grow_nm A n w hn
end
section
def c64 : AC := .seq (.reg [.o 3 (.box (.t 1)), .o 4 (.mov (.k (.c (.str []))))]) (.seq (.seq (.reg [.d 17 5 3, .k 18 152 [(.t 17)]]) (.cond (.t 18) (.seq (.dreg [.f 19 1 3, .l 20 19, .o 21 (.bin .add (.t 20) (.k (.c (.str [92, 32])))), .m 22 0, .f 23 3 3, .l 24 23, .o 25 (.iadd 5 (.t 24) (.k (.c (.int .i64 0)))), .d 26 5 25, .k 27 64 [(.t 22), (.t 26)], .o 28 (.bin .add (.t 21) (.t 27)), .m 4 28] [.q (.m 22 0), .q (.f 23 3 3), .q (.l 24 23), .q (.o 25 (.iadd 5 (.t 24) (.k (.c (.int .i64 0))))), .q (.d 26 5 25), ⟨.k 27 64 [(.t 22), (.t 26)], true, 0⟩, .q (.f 19 1 3), .q (.l 20 19), .q (.o 21 (.bin .add (.t 20) (.k (.c (.str [92, 32]))))), ⟨.o 28 (.bin .add (.t 21) (.t 27)), false, 1⟩, ⟨.m 4 28, false, 1⟩]) (.ret)) (.skip))) (.seq (.seq (.reg [.d 29 5 3, .k 30 153 [(.t 29)], .o 31 (.un .not (.t 30))]) (.cond (.t 31) (.seq (.reg [.m 32 0, .d 33 5 3, .k 34 154 [(.t 32), (.t 33)], .m 4 34]) (.ret)) (.skip))) (.seq (.reg [.m 36 0, .d 37 5 3, .k 38 155 [(.t 36), (.t 37)], .m 35 38, .x 39 35 0, .x 40 35 1, .o 5 (.box (.k (.agg [.c (.str []), .c (.int .i64 0), .c (.int .i64 0)]))), .s 3 5 39, .m 6 40]) (.seq (.seq (.reg [.m 41 6, .o 42 (.un .not (.t 41))]) (.cond (.t 42) (.seq (.reg [.m 44 0, .f 45 3 3, .l 46 45, .o 47 (.iadd 5 (.t 46) (.k (.c (.int .i64 0)))), .d 48 5 47, .k 49 155 [(.t 44), (.t 48)], .m 43 49, .x 50 43 0, .x 51 43 1, .o 7 (.box (.k (.agg [.c (.str []), .c (.int .i64 0), .c (.int .i64 0)]))), .s 3 7 50, .m 8 51]) (.seq (.dreg [.m 52 0, .f 53 3 3, .l 54 53, .o 55 (.iadd 5 (.t 54) (.k (.c (.int .i64 0)))), .d 56 5 55, .k 57 64 [(.t 52), (.t 56)], .m 58 8, .m 59 58, .z 60 (.fadd 3 (.t 3)) 59, .z 61 (.load1 (.t 60)) 59, .z 62 (.iadd 5 (.t 61) (.k (.c (.int .i64 0)))) 59, .z 63 (.loadn 5 (.t 62)) 59, .z 64 (.call (.k (.fn 152 [])) [(.t 63)]) 59, .o 65 (.pick (.t 59) (.k (.c (.bool true))) (.t 64)), .k 66 156 [(.t 57), (.t 65)], .o 67 (.bin .add (.t 66) (.k (.c (.str [32])))), .m 68 0, .f 69 3 3, .l 70 69, .o 71 (.iadd 5 (.t 70) (.k (.c (.int .i64 1)))), .d 72 5 71, .k 73 64 [(.t 68), (.t 72)], .f 74 3 3, .l 75 74, .o 76 (.iadd 5 (.t 75) (.k (.c (.int .i64 1)))), .d 77 5 76, .k 78 153 [(.t 77)], .m 79 78, .z 80 (.fadd 3 (.t 3)) 79, .z 81 (.load1 (.t 80)) 79, .z 82 (.iadd 5 (.t 81) (.k (.c (.int .i64 1)))) 79, .z 83 (.loadn 5 (.t 82)) 79, .z 84 (.call (.k (.fn 152 [])) [(.t 83)]) 79, .o 85 (.pick (.t 79) (.k (.c (.bool true))) (.t 84)), .k 86 156 [(.t 73), (.t 85)], .o 87 (.bin .add (.t 67) (.t 86)), .m 4 87] [.q (.m 52 0), .q (.f 53 3 3), .q (.l 54 53), .q (.o 55 (.iadd 5 (.t 54) (.k (.c (.int .i64 0))))), .q (.d 56 5 55), ⟨.k 57 64 [(.t 52), (.t 56)], true, 0⟩, .q (.m 58 8), ⟨.m 59 58, false, 1⟩, ⟨.z 60 (.fadd 3 (.t 3)) 59, false, 1⟩, ⟨.z 61 (.load1 (.t 60)) 59, false, 1⟩, ⟨.z 62 (.iadd 5 (.t 61) (.k (.c (.int .i64 0)))) 59, false, 1⟩, ⟨.z 63 (.loadn 5 (.t 62)) 59, false, 1⟩, ⟨.z 64 (.call (.k (.fn 152 [])) [(.t 63)]) 59, true, 1⟩, ⟨.o 65 (.pick (.t 59) (.k (.c (.bool true))) (.t 64)), false, 2⟩, ⟨.k 66 156 [(.t 57), (.t 65)], true, 2⟩, .q (.m 68 0), .q (.f 69 3 3), .q (.l 70 69), .q (.o 71 (.iadd 5 (.t 70) (.k (.c (.int .i64 1))))), .q (.d 72 5 71), ⟨.k 73 64 [(.t 68), (.t 72)], true, 3⟩, .q (.f 74 3 3), .q (.l 75 74), .q (.o 76 (.iadd 5 (.t 75) (.k (.c (.int .i64 1))))), .q (.d 77 5 76), ⟨.k 78 153 [(.t 77)], true, 4⟩, ⟨.m 79 78, false, 5⟩, ⟨.z 80 (.fadd 3 (.t 3)) 79, false, 5⟩, ⟨.z 81 (.load1 (.t 80)) 79, false, 5⟩, ⟨.z 82 (.iadd 5 (.t 81) (.k (.c (.int .i64 1)))) 79, false, 5⟩, ⟨.z 83 (.loadn 5 (.t 82)) 79, false, 5⟩, ⟨.z 84 (.call (.k (.fn 152 [])) [(.t 83)]) 79, true, 5⟩, ⟨.o 85 (.pick (.t 79) (.k (.c (.bool true))) (.t 84)), false, 6⟩, ⟨.k 86 156 [(.t 73), (.t 85)], true, 6⟩, ⟨.o 67 (.bin .add (.t 66) (.k (.c (.str [32])))), false, 3⟩, ⟨.o 87 (.bin .add (.t 67) (.t 86)), false, 7⟩, ⟨.m 4 87, false, 7⟩]) (.ret))) (.skip))) (.seq (.reg [.f 88 3 3, .l 89 88, .o 90 (.iadd 5 (.t 89) (.k (.c (.int .i64 0)))), .f 91 3 90, .l 92 91, .o 93 (.iadd 5 (.t 92) (.k (.c (.int .i64 1)))), .d 94 5 93, .o 9 (.box (.k (.agg [.c (.int .i64 0), .c (.str []), .c (.int .i64 0), .csl [], .c (.int .i64 0)]))), .s 5 9 94]) (.seq (.reg [.f 95 3 3, .l 96 95, .o 97 (.iadd 5 (.t 96) (.k (.c (.int .i64 1)))), .d 98 5 97, .o 10 (.box (.k (.agg [.c (.int .i64 0), .c (.str []), .c (.int .i64 0), .csl [], .c (.int .i64 0)]))), .s 5 10 98]) (.seq (.reg [.m 100 0, .d 101 5 9, .k 102 155 [(.t 100), (.t 101)], .m 99 102, .x 103 99 0, .x 104 99 1, .o 11 (.box (.k (.agg [.c (.str []), .c (.int .i64 0), .c (.int .i64 0)]))), .s 3 11 103, .m 12 104]) (.seq (.reg [.m 106 0, .d 107 5 10, .k 108 155 [(.t 106), (.t 107)], .m 105 108, .x 109 105 0, .x 110 105 1, .o 13 (.box (.k (.agg [.c (.str []), .c (.int .i64 0), .c (.int .i64 0)]))), .s 3 13 109, .m 14 110]) (.seq (.dreg [.m 111 0, .d 112 5 9, .k 113 64 [(.t 111), (.t 112)], .d 114 5 9, .k 115 152 [(.t 114)], .m 116 115, .z 117 (.mov (.t 12)) 116, .z 118 (.mov (.t 117)) 116, .y 119 (.loadn 3 (.t 5)) 118, .y 120 (.loadn 3 (.t 11)) 118, .y 121 (.call (.k (.fn 157 [])) [(.t 119), (.t 120)]) 118, .y 122 (.un .not (.t 121)) 118, .z 123 (.pick (.t 118) (.t 122) (.k (.c (.bool false)))) 116, .o 124 (.pick (.t 116) (.k (.c (.bool true))) (.t 123)), .k 125 156 [(.t 113), (.t 124)], .m 15 125] [.q (.m 111 0), .q (.d 112 5 9), ⟨.k 113 64 [(.t 111), (.t 112)], true, 0⟩, .q (.d 114 5 9), ⟨.k 115 152 [(.t 114)], true, 1⟩, ⟨.m 116 115, false, 2⟩, ⟨.z 117 (.mov (.t 12)) 116, false, 2⟩, ⟨.z 118 (.mov (.t 117)) 116, false, 2⟩, ⟨.y 119 (.loadn 3 (.t 5)) 118, false, 2⟩, ⟨.y 120 (.loadn 3 (.t 11)) 118, false, 2⟩, ⟨.y 121 (.call (.k (.fn 157 [])) [(.t 119), (.t 120)]) 118, true, 2⟩, ⟨.y 122 (.un .not (.t 121)) 118, false, 3⟩, ⟨.z 123 (.pick (.t 118) (.t 122) (.k (.c (.bool false)))) 116, false, 3⟩, ⟨.o 124 (.pick (.t 116) (.k (.c (.bool true))) (.t 123)), false, 3⟩, ⟨.k 125 156 [(.t 113), (.t 124)], true, 3⟩, ⟨.m 15 125, false, 4⟩]) (.seq (.dreg [.m 126 0, .d 127 5 10, .k 128 64 [(.t 126), (.t 127)], .d 129 5 10, .k 130 152 [(.t 129)], .m 131 130, .z 132 (.mov (.t 14)) 131, .z 133 (.mov (.t 132)) 131, .y 134 (.loadn 3 (.t 5)) 133, .y 135 (.loadn 3 (.t 13)) 133, .y 136 (.call (.k (.fn 158 [])) [(.t 134), (.t 135)]) 133, .y 137 (.un .not (.t 136)) 133, .z 138 (.pick (.t 133) (.t 137) (.k (.c (.bool false)))) 131, .o 139 (.pick (.t 131) (.k (.c (.bool true))) (.t 138)), .k 140 156 [(.t 128), (.t 139)], .m 16 140] [.q (.m 126 0), .q (.d 127 5 10), ⟨.k 128 64 [(.t 126), (.t 127)], true, 0⟩, .q (.d 129 5 10), ⟨.k 130 152 [(.t 129)], true, 1⟩, ⟨.m 131 130, false, 2⟩, ⟨.z 132 (.mov (.t 14)) 131, false, 2⟩, ⟨.z 133 (.mov (.t 132)) 131, false, 2⟩, ⟨.y 134 (.loadn 3 (.t 5)) 133, false, 2⟩, ⟨.y 135 (.loadn 3 (.t 13)) 133, false, 2⟩, ⟨.y 136 (.call (.k (.fn 158 [])) [(.t 134), (.t 135)]) 133, true, 2⟩, ⟨.y 137 (.un .not (.t 136)) 133, false, 3⟩, ⟨.z 138 (.pick (.t 133) (.t 137) (.k (.c (.bool false)))) 131, false, 3⟩, ⟨.o 139 (.pick (.t 131) (.k (.c (.bool true))) (.t 138)), false, 3⟩, ⟨.k 140 156 [(.t 128), (.t 139)], true, 3⟩, ⟨.m 16 140, false, 4⟩]) (.seq (.reg [.m 141 15, .o 142 (.bin .add (.t 141) (.k (.c (.str [32])))), .f 143 0 5, .l 144 143, .o 145 (.bin .add (.t 142) (.t 144)), .o 146 (.bin .add (.t 145) (.k (.c (.str [32])))), .m 147 16, .o 148 (.bin .add (.t 146) (.t 147)), .m 4 148]) (.ret))))))))))))
def r64 : List ResV := [.tmp 4]
theorem k64 : CodeIs Tryz.prog 64 2 Tryz.f64 c64 r64 := .auto Tryz.func64
--absent /-- law04.over -/
--absent /-- law04.long -/
--absent /-- law04.tree -/
--absent /-- law04.works -/
--absent /-- law04.ShowTexts -/
--absent /-- law04.ShowLines -/
end
section

end
end Go.Proofs.YtpcmcfajfnpjeaaGreatDoor
namespace Go.Proofs.YtpcmcfajfnpjeaaGreatDoor
open Go.RowKit Go.Lamb

end Go.Proofs.YtpcmcfajfnpjeaaGreatDoor
namespace Go.Proofs.YtpcmcfajfnpjeaaGreatDoor
open Go.RowKit Go.Lamb

end Go.Proofs.YtpcmcfajfnpjeaaGreatDoor
namespace Go.Proofs.YtpcmcfajfnpjeaaGreatDoor
open Go.RowKit Go.Lamb
attribute [local go_sem] advO_skip advO_reg advO_seq advO_block advO_exit advO_endb advO_opsNil advO_ops advG_yes advG_no advG_none advS_some advS_none advO_cond advO_loop advO_dreg advO_ret advO_bad advO_inv advO_nil advO_zero wantedV Lamb.step ev_t ev_k put_some put_none argEnv popTo cellsAt V.cellsV V.rows V.sub V.toC toCs fillV bytesC byteRows appV rowsV boundV boundL binV binInt binStr eqC eqL V.isNil leaves V.leaf Ins.quiet Ins.pure List.getD_cons_zero List.getD_cons_succ List.getD_nil List.all_cons List.all_nil List.length_cons List.length_nil List.take_succ_cons List.take_zero List.drop_succ_cons List.drop_zero List.cons_append List.nil_append List.append_nil List.append_assoc List.map_cons List.map_nil List.getElem?_cons_zero List.getElem?_cons_succ List.length_append List.length_set hget0 hget hset0 hset hsets hgs0 hgs hss0 hss List.set_cons_zero List.set_cons_succ List.forall_mem_cons List.not_mem_nil false_implies implies_true Option.map_some Bool.and_true Bool.true_and Bool.not_not Bool.not_true Bool.not_false Bool.and_self Bool.or_true Bool.true_or Bool.or_false Bool.false_or Bool.and_false Bool.false_and Bool.false_eq_true beq_self_eq_true and_self and_true true_and if_true if_false Nat.zero_add Nat.add_zero Nat.le_refl Int.toNat_natCast decide_true decide_false beq_t beq_f List.length_map List.getElem?_map I S B opsC toksC OpT.v OpT.cs OpT.zero Tok.v Tok.cs Pre.v Pre.cs_eq k_mk name_mk n_mk l_mk pos_mk Pre.app applyL natCast0 natCast1 natCast2 AOp.o AOp.m AOp.f AOp.l AOp.d AOp.n AOp.x AOp.s AOp.k AOp.y AOp.z EOp.q low_c low_void low_any low_csl low_nilf low_ptr low_osl low_agg low_tup low_fn resEval advPO_nil advPO_loud advPO_quiet pL_yes pL_no pLS_some pLS_none pQ_yes pQ_no pQS_some pQS_loud eq_self Nat.sub_zero

end Go.Proofs.YtpcmcfajfnpjeaaGreatDoor
namespace Go.Proofs.YtpcmcfajfnpjeaaGreatDoor
open Go.RowKit Go.Lamb

end Go.Proofs.YtpcmcfajfnpjeaaGreatDoor
namespace Go.Proofs.YtpcmcfajfnpjeaaGreatDoor
open Go.RowKit Go.Lamb

end Go.Proofs.YtpcmcfajfnpjeaaGreatDoor
namespace Go.Proofs.YtpcmcfajfnpjeaaGreatDoor
open Go.RowKit Go.Lamb

end Go.Proofs.YtpcmcfajfnpjeaaGreatDoor
namespace Go.Proofs.YtpcmcfajfnpjeaaGreatDoor
open Go.RowKit Go.Lamb

end Go.Proofs.YtpcmcfajfnpjeaaGreatDoor
namespace Go.Proofs.YtpcmcfajfnpjeaaGreatDoor
open Go.RowKit Go.Lamb

end Go.Proofs.YtpcmcfajfnpjeaaGreatDoor
namespace Go.Proofs.YtpcmcfajfnpjeaaGreatDoor
open Go.RowKit Go.Lamb

theorem any_at {α : Type} {l : List α} {f : α → Bool} {j : Nat} (hj : j < l.length) (h : f l[j] = true) : l.any f = true := by
  rw [List.any_eq_true]; exact ⟨_, List.getElem_mem hj, h⟩
theorem any_no {α : Type} {l : List α} {f : α → Bool} (h : ∀ j (hj : j < l.length), f l[j] = false) : l.any f = false := by
  rw [List.any_eq_false]; intro x hx; obtain ⟨j, hj, rfl⟩ := List.getElem_of_mem hx; rw [h j hj]; simp
end Go.Proofs.YtpcmcfajfnpjeaaGreatDoor
namespace Go.Lamb
end Go.Lamb
namespace Go.Proofs.YtpcmcfajfnpjeaaGreatDoor
open Go.RowKit Go.Lamb
end Go.Proofs.YtpcmcfajfnpjeaaGreatDoor
namespace Go.Proofs.YtpcmcfajfnpjeaaGreatDoor
open Go.RowKit Go.Lamb
def c239 : AC := .seq (.reg [.o 1 (.box (.t 0)), .o 2 (.mov (.k (.c (.bool false))))]) (.seq (.reg [.f 3 0 1, .l 4 3, .o 5 (.bin .eql (.t 4) (.k (.c (.int .i64 4)))), .m 6 5, .y 7 (.fadd 3 (.t 1)) 6, .y 8 (.load1 (.t 7)) 6, .y 9 (.lenr (.t 8)) 6, .y 10 (.bin .eql (.t 9) (.k (.c (.int .i64 1)))) 6, .o 11 (.pick (.t 6) (.t 10) (.k (.c (.bool false)))), .m 2 11]) (.ret))
def r239 : List ResV := [.tmp 2]
theorem k239 : CodeIs Tryz.prog 239 1 Tryz.f239 c239 r239 := .auto Tryz.func239
def c240 : AC := .seq (.reg [.o 1 (.box (.t 0)), .o 2 (.mov (.k (.c (.bool false))))]) (.seq (.reg [.f 3 0 1, .l 4 3, .o 5 (.bin .eql (.t 4) (.k (.c (.int .i64 3)))), .m 6 5, .y 7 (.fadd 3 (.t 1)) 6, .y 8 (.load1 (.t 7)) 6, .y 9 (.lenr (.t 8)) 6, .y 10 (.bin .eql (.t 9) (.k (.c (.int .i64 2)))) 6, .o 11 (.pick (.t 6) (.t 10) (.k (.c (.bool false)))), .m 2 11]) (.ret))
def r240 : List ResV := [.tmp 2]
theorem k240 : CodeIs Tryz.prog 240 1 Tryz.f240 c240 r240 := .auto Tryz.func240
def c233 : AC := .seq (.reg [.o 3 (.box (.t 1)), .o 4 (.box (.k (.agg [.c (.str []), .c (.int .i64 0), .c (.int .i64 0)]))), .o 5 (.box (.k (.agg [.c (.int .i64 0), .c (.str []), .c (.int .i64 0), .csl [], .c (.int .i64 0)]))), .o 6 (.box (.k (.agg [.c (.int .i64 0), .c (.str []), .c (.int .i64 0), .csl [], .c (.int .i64 0)]))), .o 7 (.mov (.k (.c (.bool false))))]) (.seq (.seq (.reg [.d 8 5 3, .k 9 240 [(.t 8)], .o 10 (.un .not (.t 9)), .m 11 10, .z 12 (.fadd 3 (.t 3)) 11, .z 13 (.load1 (.t 12)) 11, .z 14 (.iadd 5 (.t 13) (.k (.c (.int .i64 0)))) 11, .z 15 (.loadn 5 (.t 14)) 11, .z 16 (.call (.k (.fn 240 [])) [(.t 15)]) 11, .z 17 (.un .not (.t 16)) 11, .o 18 (.pick (.t 11) (.k (.c (.bool true))) (.t 17)), .m 19 18, .z 20 (.fadd 3 (.t 3)) 19, .z 21 (.load1 (.t 20)) 19, .z 22 (.iadd 5 (.t 21) (.k (.c (.int .i64 0)))) 19, .z 23 (.fadd 3 (.t 22)) 19, .z 24 (.load1 (.t 23)) 19, .z 25 (.iadd 5 (.t 24) (.k (.c (.int .i64 0)))) 19, .z 26 (.fadd 0 (.t 25)) 19, .z 27 (.load1 (.t 26)) 19, .z 28 (.bin .neq (.t 27) (.k (.c (.int .i64 0)))) 19, .o 29 (.pick (.t 19) (.k (.c (.bool true))) (.t 28))]) (.cond (.t 29) (.ret) (.skip))) (.seq (.dreg [.m 31 0, .n 32 31, .f 33 0 32, .l 34 33, .f 35 3 3, .l 36 35, .o 37 (.iadd 5 (.t 36) (.k (.c (.int .i64 0)))), .f 38 3 37, .l 39 38, .o 40 (.iadd 5 (.t 39) (.k (.c (.int .i64 0)))), .f 41 1 40, .l 42 41, .k 43 66 [(.t 34), (.t 42)], .m 30 43, .x 44 30 0, .x 45 30 1, .s 3 4 44, .m 7 45] [.q (.m 31 0), .q (.n 32 31), .q (.f 33 0 32), .q (.l 34 33), .q (.f 35 3 3), .q (.l 36 35), .q (.o 37 (.iadd 5 (.t 36) (.k (.c (.int .i64 0))))), .q (.f 38 3 37), .q (.l 39 38), .q (.o 40 (.iadd 5 (.t 39) (.k (.c (.int .i64 0))))), .q (.f 41 1 40), .q (.l 42 41), ⟨.k 43 66 [(.t 34), (.t 42)], true, 0⟩, ⟨.m 30 43, false, 1⟩, ⟨.x 44 30 0, false, 1⟩, ⟨.s 3 4 44, true, 1⟩, ⟨.x 45 30 1, false, 1⟩, ⟨.m 7 45, false, 2⟩]) (.seq (.dreg [.d 46 3 4, .f 47 3 3, .l 48 47, .o 49 (.iadd 5 (.t 48) (.k (.c (.int .i64 0)))), .f 50 3 49, .l 51 50, .o 52 (.iadd 5 (.t 51) (.k (.c (.int .i64 1)))), .d 53 5 52, .f 54 3 3, .l 55 54, .o 56 (.iadd 5 (.t 55) (.k (.c (.int .i64 1)))), .d 57 5 56, .m 58 7, .s 3 4 46, .s 5 5 53, .s 5 6 57, .m 7 58] [.q (.d 46 3 4), ⟨.s 3 4 46, true, 0⟩, .q (.f 47 3 3), .q (.l 48 47), .q (.o 49 (.iadd 5 (.t 48) (.k (.c (.int .i64 0))))), .q (.f 50 3 49), .q (.l 51 50), .q (.o 52 (.iadd 5 (.t 51) (.k (.c (.int .i64 1))))), .q (.d 53 5 52), ⟨.s 5 5 53, true, 1⟩, .q (.f 54 3 3), .q (.l 55 54), .q (.o 56 (.iadd 5 (.t 55) (.k (.c (.int .i64 1))))), .q (.d 57 5 56), ⟨.s 5 6 57, true, 2⟩, .q (.m 58 7), ⟨.m 7 58, false, 3⟩]) (.ret))))
def r233 : List ResV := [.celln 3 4, .celln 5 5, .celln 5 6, .tmp 7]
theorem k233 : CodeIs Tryz.prog 233 2 Tryz.f233 c233 r233 := .auto Tryz.func233
def c243 : AC := .seq (.reg [.o 3 (.box (.t 1))]) (.seq (.reg [.o 4 (.mov (.k (.c (.str [63]))))]) (.seq (.seq (.reg [.f 7 0 3, .l 8 7]) (.block 0 (.seq (.reg [.o 10 (.bin .eql (.t 8) (.k (.c (.int .i64 0)))), .m 9 10]) (.cond (.t 9) (.seq (.reg [.f 11 1 3, .l 12 11, .m 4 12]) (.seq (.reg [.m 14 0, .n 15 14, .f 16 0 15, .l 17 16, .m 18 4, .k 19 66 [(.t 17), (.t 18)], .m 13 19, .x 20 13 0, .x 21 13 1, .o 5 (.box (.k (.agg [.c (.str []), .c (.int .i64 0), .c (.int .i64 0)]))), .s 3 5 20, .m 6 21]) (.seq (.reg [.m 22 6]) (.cond (.t 22) (.reg [.m 23 4, .o 24 (.bin .add (.k (.c (.str [40]))) (.t 23)), .o 25 (.bin .add (.t 24) (.k (.c (.str [41])))), .m 4 25]) (.skip))))) (.seq (.reg [.o 27 (.bin .eql (.t 8) (.k (.c (.int .i64 1)))), .m 26 27]) (.cond (.t 26) (.reg [.f 28 1 3, .l 29 28, .m 4 29]) (.seq (.reg [.o 31 (.bin .eql (.t 8) (.k (.c (.int .i64 2)))), .m 30 31]) (.cond (.t 30) (.reg [.f 32 2 3, .l 33 32, .o 34 (.mx (.t 33) (.k (.c (.int .i64 0)))), .k 35 69 [(.t 34)], .m 4 35]) (.skip))))))))) (.reg [.m 36 0, .n 37 36, .f 38 1 37, .m 39 4, .k 40 86 [(.t 38), (.t 39)]])))
def r243 : List ResV := []
theorem k243 : CodeIs Tryz.prog 243 2 Tryz.f243 c243 r243 := .auto Tryz.func243
end Go.Proofs.YtpcmcfajfnpjeaaGreatDoor
namespace Go.Lamb
def infR (l : List OpT) (p : Pre) : OpT × Pre × Pre × Bool :=
  if appP p = true then match p.l with
    | [f, b] => if appP f = true then match f.l with
        | [c, a] => if c.k = 0 then ((findL l c.name).getD .zero, a, b, (findL l c.name).isSome) else (.zero, .none, .none, false)
        | _ => (.zero, .none, .none, false)
      else (.zero, .none, .none, false)
    | _ => (.zero, .none, .none, false)
  else (.zero, .none, .none, false)
def infV (l : List OpT) (p : Pre) : V := .tup [(infR l p).1.v, (infR l p).2.1.v, (infR l p).2.2.1.v, B (infR l p).2.2.2]
end Go.Lamb
namespace Go.Proofs.YtpcmcfajfnpjeaaGreatDoor
open Go.RowKit Go.Lamb
attribute [local go_sem] advO_skip advO_reg advO_seq advO_block advO_exit advO_endb advO_opsNil advO_ops advG_yes advG_no advG_none advS_some advS_none advO_cond advO_loop advO_dreg advO_ret advO_bad advO_inv advO_nil advO_zero wantedV Lamb.step ev_t ev_k put_some put_none argEnv popTo cellsAt V.cellsV V.rows V.sub V.toC toCs fillV bytesC byteRows appV rowsV boundV boundL binV binInt binStr eqC eqL V.isNil leaves V.leaf Ins.quiet Ins.pure List.getD_cons_zero List.getD_cons_succ List.getD_nil List.all_cons List.all_nil List.length_cons List.length_nil List.take_succ_cons List.take_zero List.drop_succ_cons List.drop_zero List.cons_append List.nil_append List.append_nil List.append_assoc List.map_cons List.map_nil List.getElem?_cons_zero List.getElem?_cons_succ List.length_append List.length_set hget0 hget hset0 hset hsets hgs0 hgs hss0 hss List.set_cons_zero List.set_cons_succ List.forall_mem_cons List.not_mem_nil false_implies implies_true Option.map_some Bool.and_true Bool.true_and Bool.not_not Bool.not_true Bool.not_false Bool.and_self Bool.or_true Bool.true_or Bool.or_false Bool.false_or Bool.and_false Bool.false_and Bool.false_eq_true beq_self_eq_true and_self and_true true_and if_true if_false Nat.zero_add Nat.add_zero Nat.le_refl Int.toNat_natCast decide_true decide_false beq_t beq_f List.length_map List.getElem?_map I S B opsC toksC OpT.v OpT.cs OpT.zero Tok.v Tok.cs Pre.v Pre.cs_eq k_mk name_mk n_mk l_mk pos_mk Pre.app applyL natCast0 natCast1 natCast2 AOp.o AOp.m AOp.f AOp.l AOp.d AOp.n AOp.x AOp.s AOp.k AOp.y AOp.z EOp.q low_c low_void low_any low_csl low_nilf low_ptr low_osl low_agg low_tup low_fn resEval advPO_nil advPO_loud advPO_quiet pL_yes pL_no pLS_some pLS_none pQ_yes pQ_no pQS_some pQS_loud eq_self Nat.sub_zero
section
theorem show_lambda (w0 : World) (p : Pre) (σ : H) : DC Tryz.prog w0 239 [p.v] σ (Same (B (lamP p)) σ) := by
  refine k239.go rfl (fun hok hsz => ?_)
  have hl : ((p.l.length : Int) == 1) = (p.l.length == 1) := by rw [Bool.eq_iff_iff]; simp; omega
  unfold lamP
  cases hk : p.k == 4
  · ((try refine W.a ?_); simp only [go_sem, seval, reduceCtorEq, c239, hk])
    (refine W.fs (hok) (by simp only [r239, go_sem, seval, reduceCtorEq]; rfl) ?_; simp only [resV]; try exact V.wk.rfl _)
  · ((try refine W.a ?_); simp only [go_sem, seval, reduceCtorEq, c239, hk, hl])
    (refine W.fs (hok) (by simp only [r239, go_sem, seval, reduceCtorEq]; rfl) ?_; simp only [resV]; try exact V.wk.rfl _)
theorem show_application (w0 : World) (p : Pre) (σ : H) : DC Tryz.prog w0 240 [p.v] σ (Same (B (appP p)) σ) := by
  refine k240.go rfl (fun hok hsz => ?_)
  have hl : ((p.l.length : Int) == 2) = (p.l.length == 2) := by rw [Bool.eq_iff_iff]; simp; omega
  unfold appP
  cases hk : p.k == 3
  · ((try refine W.a ?_); simp only [go_sem, seval, reduceCtorEq, c240, hk])
    (refine W.fs (hok) (by simp only [r240, go_sem, seval, reduceCtorEq]; rfl) ?_; simp only [resV]; try exact V.wk.rfl _)
  · ((try refine W.a ?_); simp only [go_sem, seval, reduceCtorEq, c240, hk, hl])
    (refine W.fs (hok) (by simp only [r240, go_sem, seval, reduceCtorEq]; rfl) ?_; simp only [resV]; try exact V.wk.rfl _)
theorem app_two {p : Pre} (h : appP p = true) : ∃ f b, p.l = [f, b] := by
  unfold appP at h
  simp only [Bool.and_eq_true, beq_iff_eq] at h
  match p.l, h.2 with
  | [f, b], _ => exact ⟨f, b, rfl⟩
attribute [local go_sem] wrC wrY rs_len rs_g0 rs_g rs_s0 rs_s rs_sv Pre.v Pre.cs_eq
theorem writer_infix (w0 : World) (σ : H) (b v : Nat) (D : Two σ b v) (l : List OpT) (A : V) (s : List UInt8) (p : Pre) :
    DC Tryz.prog w0 233 [.ptr b 0, p.v] (wrs σ b v l A s) (Same (infV l p) (wrs σ b v l A s)) := by
  refine k233.go rfl (fun hok hsz => ?_)
  have a1 := fun σ => show_application w0 p σ
  have e0 : infR l p = (.zero, .none, .none, false) → infV l p = .tup [.agg [S [], I 0, I 0], .agg [I 0, S [], I 0, .c (.sl []), I 0], .agg [I 0, S [], I 0, .c (.sl []), I 0], B false] := fun e => by
    unfold infV
    rw [e]
    rfl
  cases h1 : appP p
  · rw [h1] at a1
    rw [e0 (by unfold infR; rw [h1]; rfl)]
    ((try refine W.a ?_); simp only [go_sem, seval, reduceCtorEq, c233, rsA D])
    (refine W.c1 (a1 _) ?_; simp only [go_sem, seval, reduceCtorEq, rsA D])
    refine W.yes rfl ?_
    ((try refine W.a ?_); simp only [go_sem, seval, reduceCtorEq, rsA D])
    (refine W.fs (hok) (by simp only [r233, go_sem, seval, reduceCtorEq]; rfl) ?_; simp only [resV]; try exact V.wk.rfl _)
    (all_goals exact wk_here)
  obtain ⟨f, t, hl⟩ := app_two h1
  have a2 := fun σ => show_application w0 f σ
  rw [h1] at a1
  cases h2 : appP f
  · rw [h2] at a2
    rw [e0 (by unfold infR; rw [h1, if_pos rfl, hl]; simp only [h2]; rfl)]
    ((try refine W.a ?_); simp only [go_sem, seval, reduceCtorEq, c233, rsA D])
    (refine W.c1 (a1 _) ?_; simp only [go_sem, seval, reduceCtorEq, rsA D, hl, nat0])
    (refine W.c1 (a2 _) ?_; simp only [go_sem, seval, reduceCtorEq, rsA D])
    refine W.yes rfl ?_
    ((try refine W.a ?_); simp only [go_sem, seval, reduceCtorEq, rsA D])
    (refine W.fs (hok) (by simp only [r233, go_sem, seval, reduceCtorEq]; rfl) ?_; simp only [resV]; try exact V.wk.rfl _)
    (all_goals exact wk_here)
  obtain ⟨c, a, hl2⟩ := app_two h2
  rw [h2] at a2
  by_cases h3 : c.k = 0
  · have k3 : (c.k != 0) = false := by simpa using h3
    have a3 := fun σ => ops_Find w0 l c.name σ
    have e1 : infV l p = .tup [((findL l c.name).getD .zero).v, a.v, t.v, B (findL l c.name).isSome] := by
      unfold infV infR
      rw [h1, if_pos rfl, hl]
      simp only [h2, if_true, hl2, h3]
    rw [e1]
    unfold foundV at a3
    generalize (findL l c.name).getD .zero = o at *
    generalize (findL l c.name).isSome = is at *
    ((try refine W.a ?_); simp only [go_sem, seval, reduceCtorEq, c233, rsA D])
    (refine W.c1 (a1 _) ?_; simp only [go_sem, seval, reduceCtorEq, rsA D, hl, nat0])
    (refine W.c1 (a2 _) ?_; simp only [go_sem, seval, reduceCtorEq, rsA D, hl2, nat0, k3])
    refine W.no rfl ?_
    ((try refine W.a ?_); simp only [go_sem, seval, reduceCtorEq, rsA D])
    apply W.dregE (List.cons_ne_nil _ _)
    case hc =>
      (apply CanonE.advPO; simp only [go_sem, seval, reduceCtorEq, rsA D, hl, hl2, nat0])
      (apply CanonE.call (a3 _); (case hg => rfl); (case hf => rfl); (case ha => first | rfl | simp))
      (apply CanonE.advPO; simp only [go_sem, seval, reduceCtorEq, rsA D])
      exact CanonE.nil
    ((try refine W.a ?_); simp only [go_sem, seval, reduceCtorEq, rsA D])
    (apply W.dregE (List.cons_ne_nil _ _); case hc => ((apply CanonE.advPO; simp only [go_sem, seval, reduceCtorEq, rsA D, hl, hl2, nat0]); exact CanonE.nil))
    ((try refine W.a ?_); simp only [go_sem, seval, reduceCtorEq, rsA D])
    (refine W.fs (hok) (by simp only [r233, go_sem, seval, reduceCtorEq]; rfl) ?_; simp only [resV]; try exact V.wk.rfl _)
  · have k3 : (c.k != 0) = true := by simpa using h3
    rw [e0 (by unfold infR; rw [h1, if_pos rfl, hl]; simp only [h2, if_true, hl2, if_neg h3])]
    ((try refine W.a ?_); simp only [go_sem, seval, reduceCtorEq, c233, rsA D])
    (refine W.c1 (a1 _) ?_; simp only [go_sem, seval, reduceCtorEq, rsA D, hl, nat0])
    (refine W.c1 (a2 _) ?_; simp only [go_sem, seval, reduceCtorEq, rsA D, hl2, nat0, k3])
    refine W.yes rfl ?_
    ((try refine W.a ?_); simp only [go_sem, seval, reduceCtorEq, rsA D])
    (refine W.fs (hok) (by simp only [r233, go_sem, seval, reduceCtorEq]; rfl) ?_; simp only [resV]; try exact V.wk.rfl _)
    (all_goals exact wk_here)
end
section
theorem strconv_ItoaS {w0 : World} (hG : Glob w0) (n : Int) (h0 : -9223372036854775808 ≤ n) (h1 : n ≤ 9223372036854775807) (σ : H) : DC Tryz.prog w0 69 [I n] σ (Same (S (Lib.itoa n)) σ) := by
  refine DC.of_calls (enters_fn Tryz.func69 (by kernel_rfl) rfl) fun κ w vs hrep hfit => ?_
  obtain ⟨v, ys, rfl, hv, hfit⟩ := hfit.cons_inv
  have := hfit.nil_inv
  subst this
  cases hv with
  | c hv =>
    cases hv with
    | int _ _ =>
      refine ⟨_, .c (.str _ (by have := Lib.itoa_length_le n h0 h1; unfold maxLen; omega)), (itoaC n w h0 h1 (hG.ext hrep.ext)).mono ?_⟩
      rintro e w' ⟨rfl, hb⟩
      exact ⟨rfl, hb⟩
attribute [local go_sem] wrC wrY rs_len rs_g0 rs_g rs_s0 rs_s rs_sv Pre.v
theorem wrs_put (σ : H) (b v : Nat) (l : List OpT) (A : V) (s t : List UInt8) : wrs σ b v l A (s ++ t) = rs σ b v (.cells [.c (opsC l), A, .osl v (byteRows (s ++ t))] (some 196)) (.spare 5 1 (s.length + t.length)) := by
  show rs σ b v (wrC l A v (s ++ t)) (wrY (s ++ t)) = _
  simp only [wrC, wrY, List.length_append]
theorem writer_word {w0 : World} (hG : Glob w0) (σ : H) (b v : Nat) (D : Two σ b v) (l : List OpT) (A : V) (hA : A = .c .nilp ∨ A = .ptr b 1) (s : List UInt8) (p : Pre) (hn : p.n ≤ 9223372036854775807) (hlen : s.length + (wordP l p).length ≤ 100000000) :
    DC Tryz.prog w0 243 [.ptr b 0, p.v] (wrs σ b v l A s) (Same (.tup []) (wrs σ b v l (.ptr b 1) (s ++ wordP l p))) := by
  refine k243.go rfl (fun hok hsz => ?_)
  by_cases k0 : p.k = 0
  · have e0 : (p.k == 0) = true := by simpa using k0
    have a3 := fun σ => ops_Find w0 l p.name σ
    unfold foundV at a3
    have ew : wordP l p = if (findL l p.name).isSome = true then 40 :: p.name ++ [41] else p.name := by unfold wordP; rw [if_pos k0]
    generalize (findL l p.name).getD .zero = o at a3
    generalize (findL l p.name).isSome = is at a3 ew
    cases is
    · rw [if_neg (by decide)] at ew
      rw [ew] at hlen ⊢
      have hok2 := wrs_ok D hok l (s ++ p.name)
      rw [wrs_put] at hok2 ⊢
      ((try refine W.a ?_); simp only [go_sem, seval, reduceCtorEq, c243, rsA D, e0])
      refine W.yes rfl ?_
      ((try refine W.a ?_); simp only [go_sem, seval, reduceCtorEq, rsA D])
      (refine W.c1 (a3 _) ?_; simp only [go_sem, seval, reduceCtorEq, rsA D])
      refine W.no rfl ?_
      ((try refine W.a ?_); simp only [go_sem, seval, reduceCtorEq, rsA D])
      (refine W.c1 (DC.lift D (fun D' => builder_WriteString w0 _ b v D' l A hA s p.name hlen)) ?_; simp only [go_sem, seval, reduceCtorEq, rsA D])
      (refine W.done (Fin.sameW (hok2) (by (first | rfl | assumption | exact List.length_set .. | simp)) (by simp only [r243, go_sem, seval, reduceCtorEq]; rfl) ?_ (by (first | exact .c _ | (simp only [go_sem, seval, reduceCtorEq]; done))) (by (first | rfl | exact (List.append_nil _).symm))); simp only [resV]; try exact V.wk.rfl _)
    · rw [if_pos rfl, List.cons_append] at ew
      have hln : (40 :: (p.name ++ [41])).length = p.name.length + 1 + 1 := by simp
      rw [ew] at hlen ⊢
      have hok2 := wrs_ok D hok l (s ++ (40 :: (p.name ++ [41])))
      rw [wrs_put, hln] at hok2 ⊢
      have hl : p.name.length + 2 ≤ 100000000 := by simp only [List.length_append, List.length_cons, List.length_nil] at hlen; omega
      have h1 : 1 + p.name.length ≤ 9223372036854775807 := by omega
      have h2 : p.name.length + 1 + 1 ≤ 9223372036854775807 := by omega
      have h3 : p.name.length + 1 ≤ 9223372036854775806 := by omega
      have h4 : p.name.length + 1 ≤ 9223372036854775807 := by omega
      ((try refine W.a ?_); simp only [go_sem, seval, reduceCtorEq, c243, rsA D, e0])
      refine W.yes rfl ?_
      ((try refine W.a ?_); simp only [go_sem, seval, reduceCtorEq, rsA D])
      (refine W.c1 (a3 _) ?_; simp only [go_sem, seval, reduceCtorEq, rsA D])
      refine W.yes rfl ?_
      ((try refine W.a ?_); simp only [go_sem, seval, reduceCtorEq, rsA D, h1, h2, h3, h4])
      (refine W.c1 (DC.lift D (fun D' => builder_WriteString w0 _ b v D' l A hA s (40 :: (p.name ++ [41])) hlen)) ?_; simp only [go_sem, seval, reduceCtorEq, rsA D])
      (refine W.done (Fin.sameW (hok2) (by (first | rfl | assumption | exact List.length_set .. | simp)) (by simp only [r243, go_sem, seval, reduceCtorEq]; rfl) ?_ (by (first | exact .c _ | (simp only [go_sem, seval, reduceCtorEq]; done))) (by (first | rfl | exact (List.append_nil _).symm))); simp only [resV]; try exact V.wk.rfl _)
  have e0 : (p.k == 0) = false := by simpa using k0
  by_cases k1 : p.k = 1
  · have e1 : (p.k == 1) = true := by simpa using k1
    have ew : wordP l p = p.name := by unfold wordP; rw [if_neg k0, if_pos k1]
    rw [ew] at hlen ⊢
    have hok2 := wrs_ok D hok l (s ++ p.name)
    rw [wrs_put] at hok2 ⊢
    ((try refine W.a ?_); simp only [go_sem, seval, reduceCtorEq, c243, rsA D, e0])
    refine W.no rfl ?_
    ((try refine W.a ?_); simp only [go_sem, seval, reduceCtorEq, rsA D, e1])
    refine W.yes rfl ?_
    ((try refine W.a ?_); simp only [go_sem, seval, reduceCtorEq, rsA D])
    (refine W.c1 (DC.lift D (fun D' => builder_WriteString w0 _ b v D' l A hA s p.name hlen)) ?_; simp only [go_sem, seval, reduceCtorEq, rsA D])
    (refine W.done (Fin.sameW (hok2) (by (first | rfl | assumption | exact List.length_set .. | simp)) (by simp only [r243, go_sem, seval, reduceCtorEq]; rfl) ?_ (by (first | exact .c _ | (simp only [go_sem, seval, reduceCtorEq]; done))) (by (first | rfl | exact (List.append_nil _).symm))); simp only [resV]; try exact V.wk.rfl _)
  have e1 : (p.k == 1) = false := by simpa using k1
  by_cases k2 : p.k = 2
  · have e2 : (p.k == 2) = true := by simpa using k2
    have ew : wordP l p = Lib.itoa (max p.n 0) := by unfold wordP; rw [if_neg k0, if_neg k1, if_pos k2]
    have hm : (if p.n < 0 then 0 else p.n) = max p.n 0 := by split <;> omega
    have hi := fun σ => strconv_ItoaS hG (max p.n 0) (by omega) (by omega) σ
    rw [ew] at hlen ⊢
    have hok2 := wrs_ok D hok l (s ++ (Lib.itoa (max p.n 0)))
    rw [wrs_put] at hok2 ⊢
    ((try refine W.a ?_); simp only [go_sem, seval, reduceCtorEq, c243, rsA D, e0])
    refine W.no rfl ?_
    ((try refine W.a ?_); simp only [go_sem, seval, reduceCtorEq, rsA D, e1])
    refine W.no rfl ?_
    ((try refine W.a ?_); simp only [go_sem, seval, reduceCtorEq, rsA D, e2])
    refine W.yes rfl ?_
    ((try refine W.a ?_); simp only [go_sem, seval, reduceCtorEq, rsA D, hm])
    (refine W.c1 (hi _) ?_; simp only [go_sem, seval, reduceCtorEq, rsA D])
    (refine W.c1 (DC.lift D (fun D' => builder_WriteString w0 _ b v D' l A hA s (Lib.itoa (max p.n 0)) hlen)) ?_; simp only [go_sem, seval, reduceCtorEq, rsA D])
    (refine W.done (Fin.sameW (hok2) (by (first | rfl | assumption | exact List.length_set .. | simp)) (by simp only [r243, go_sem, seval, reduceCtorEq]; rfl) ?_ (by (first | exact .c _ | (simp only [go_sem, seval, reduceCtorEq]; done))) (by (first | rfl | exact (List.append_nil _).symm))); simp only [resV]; try exact V.wk.rfl _)
  have e2 : (p.k == 2) = false := by simpa using k2
  have ew : wordP l p = [63] := by unfold wordP; rw [if_neg k0, if_neg k1, if_neg k2]
  rw [ew] at hlen ⊢
  have hok2 := wrs_ok D hok l (s ++ [63])
  rw [wrs_put] at hok2 ⊢
  ((try refine W.a ?_); simp only [go_sem, seval, reduceCtorEq, c243, rsA D, e0])
  refine W.no rfl ?_
  ((try refine W.a ?_); simp only [go_sem, seval, reduceCtorEq, rsA D, e1])
  refine W.no rfl ?_
  ((try refine W.a ?_); simp only [go_sem, seval, reduceCtorEq, rsA D, e2])
  refine W.no rfl ?_
  ((try refine W.a ?_); simp only [go_sem, seval, reduceCtorEq, rsA D])
  (refine W.c1 (DC.lift D (fun D' => builder_WriteString w0 _ b v D' l A hA s [63] hlen)) ?_; simp only [go_sem, seval, reduceCtorEq, rsA D])
  (refine W.done (Fin.sameW (hok2) (by (first | rfl | assumption | exact List.length_set .. | simp)) (by simp only [r243, go_sem, seval, reduceCtorEq]; rfl) ?_ (by (first | exact .c _ | (simp only [go_sem, seval, reduceCtorEq]; done))) (by (first | rfl | exact (List.append_nil _).symm))); simp only [resV]; try exact V.wk.rfl _)
end
section
def c234 : AC := .seq (.reg [.o 4 (.box (.t 1))]) (.seq (.reg [.m 11 0, .d 12 5 4, .k 13 233 [(.t 11), (.t 12)], .m 10 13, .x 14 10 0, .x 15 10 1, .x 16 10 2, .x 17 10 3, .o 6 (.box (.k (.agg [.c (.str []), .c (.int .i64 0), .c (.int .i64 0)]))), .o 7 (.box (.k (.agg [.c (.int .i64 0), .c (.str []), .c (.int .i64 0), .csl [], .c (.int .i64 0)]))), .o 8 (.box (.k (.agg [.c (.int .i64 0), .c (.str []), .c (.int .i64 0), .csl [], .c (.int .i64 0)]))), .s 3 6 14, .s 5 7 15, .s 5 8 16, .m 9 17]) (.dreg [.m 18 0, .d 19 5 4, .d 20 5 4, .k 21 239 [(.t 20)], .m 22 21, .z 23 (.mov (.t 9)) 22, .z 24 (.mov (.t 23)) 22, .y 25 (.mov (.t 2)) 24, .y 26 (.loadn 3 (.t 6)) 24, .y 27 (.call (.t 25) [(.t 26)]) 24, .y 28 (.un .not (.t 27)) 24, .z 29 (.pick (.t 24) (.t 28) (.k (.c (.bool false)))) 22, .o 30 (.pick (.t 22) (.k (.c (.bool true))) (.t 29)), .k 31 241 [(.t 18), (.t 19), (.t 30)]] [.q (.d 20 5 4), ⟨.k 21 239 [(.t 20)], true, 0⟩, ⟨.m 22 21, false, 1⟩, ⟨.z 23 (.mov (.t 9)) 22, false, 1⟩, ⟨.z 24 (.mov (.t 23)) 22, false, 1⟩, ⟨.y 25 (.mov (.t 2)) 24, false, 1⟩, ⟨.y 26 (.loadn 3 (.t 6)) 24, false, 1⟩, ⟨.y 27 (.call (.t 25) [(.t 26)]) 24, true, 1⟩, .q (.m 18 0), .q (.d 19 5 4), ⟨.y 28 (.un .not (.t 27)) 24, false, 2⟩, ⟨.z 29 (.pick (.t 24) (.t 28) (.k (.c (.bool false)))) 22, false, 2⟩, ⟨.o 30 (.pick (.t 22) (.k (.c (.bool true))) (.t 29)), false, 2⟩, ⟨.k 31 241 [(.t 18), (.t 19), (.t 30)], true, 2⟩]))
def r234 : List ResV := []
theorem k234 : CodeIs Tryz.prog 234 3 Tryz.f234 c234 r234 := .auto Tryz.func234
def c151 : AC := .seq (.reg [.o 3 (.box (.t 1))]) (.seq (.reg [.m 13 0, .d 14 5 3, .k 15 233 [(.t 13), (.t 14)], .m 12 15, .x 16 12 0, .x 17 12 1, .x 18 12 2, .x 19 12 3, .o 4 (.box (.k (.agg [.c (.str []), .c (.int .i64 0), .c (.int .i64 0)]))), .o 5 (.box (.k (.agg [.c (.int .i64 0), .c (.str []), .c (.int .i64 0), .csl [], .c (.int .i64 0)]))), .o 6 (.box (.k (.agg [.c (.int .i64 0), .c (.str []), .c (.int .i64 0), .csl [], .c (.int .i64 0)]))), .s 3 4 16, .s 5 5 17, .s 5 6 18, .m 7 19]) (.block 0 (.seq (.reg [.m 24 7, .m 23 24]) (.cond (.t 23) (.seq (.reg [.m 25 0, .d 26 5 5, .o 27 (.mkfn 235 [(.t 4)]), .k 28 234 [(.t 25), (.t 26), (.t 27)]]) (.seq (.dreg [.m 29 0, .n 30 29, .f 31 1 30, .f 32 0 4, .l 33 32, .o 34 (.bin .add (.k (.c (.str [32]))) (.t 33)), .o 35 (.bin .add (.t 34) (.k (.c (.str [32])))), .k 36 86 [(.t 31), (.t 35)]] [.q (.m 29 0), .q (.n 30 29), .q (.f 31 1 30), .q (.f 32 0 4), .q (.l 33 32), .q (.o 34 (.bin .add (.k (.c (.str [32]))) (.t 33))), .q (.o 35 (.bin .add (.t 34) (.k (.c (.str [32]))))), ⟨.k 36 86 [(.t 31), (.t 35)], true, 0⟩]) (.reg [.m 37 0, .d 38 5 6, .o 39 (.mkfn 237 [(.t 4)]), .k 40 234 [(.t 37), (.t 38), (.t 39)]]))) (.seq (.reg [.d 42 5 3, .k 43 239 [(.t 42)], .m 41 43]) (.cond (.t 41) (.seq (.dreg [.m 44 0, .n 45 44, .f 46 1 45, .f 47 1 3, .l 48 47, .o 49 (.bin .add (.t 48) (.k (.c (.str [92, 32])))), .k 50 86 [(.t 46), (.t 49)]] [.q (.m 44 0), .q (.n 45 44), .q (.f 46 1 45), .q (.f 47 1 3), .q (.l 48 47), .q (.o 49 (.bin .add (.t 48) (.k (.c (.str [92, 32]))))), ⟨.k 50 86 [(.t 46), (.t 49)], true, 0⟩]) (.reg [.m 51 0, .f 52 3 3, .l 53 52, .o 54 (.iadd 5 (.t 53) (.k (.c (.int .i64 0)))), .d 55 5 54, .k 56 151 [(.t 51), (.t 55)]])) (.seq (.reg [.d 58 5 3, .k 59 240 [(.t 58)], .m 57 59]) (.cond (.t 57) (.seq (.reg [.m 61 0, .f 62 3 3, .l 63 62, .o 64 (.iadd 5 (.t 63) (.k (.c (.int .i64 0)))), .d 65 5 64, .k 66 233 [(.t 61), (.t 65)], .m 60 66, .x 67 60 0, .x 68 60 1, .x 69 60 2, .x 70 60 3, .o 8 (.box (.k (.agg [.c (.str []), .c (.int .i64 0), .c (.int .i64 0)]))), .o 9 (.box (.k (.agg [.c (.int .i64 0), .c (.str []), .c (.int .i64 0), .csl [], .c (.int .i64 0)]))), .o 10 (.box (.k (.agg [.c (.int .i64 0), .c (.str []), .c (.int .i64 0), .csl [], .c (.int .i64 0)]))), .s 3 8 67, .s 5 9 68, .s 5 10 69, .m 11 70]) (.seq (.dreg [.m 71 0, .f 72 3 3, .l 73 72, .o 74 (.iadd 5 (.t 73) (.k (.c (.int .i64 0)))), .d 75 5 74, .m 76 11, .m 77 76, .z 78 (.fadd 3 (.t 3)) 77, .z 79 (.load1 (.t 78)) 77, .z 80 (.iadd 5 (.t 79) (.k (.c (.int .i64 0)))) 77, .z 81 (.loadn 5 (.t 80)) 77, .z 82 (.call (.k (.fn 239 [])) [(.t 81)]) 77, .o 83 (.pick (.t 77) (.k (.c (.bool true))) (.t 82)), .k 84 241 [(.t 71), (.t 75), (.t 83)]] [.q (.m 76 11), .q (.m 77 76), .q (.z 78 (.fadd 3 (.t 3)) 77), .q (.z 79 (.load1 (.t 78)) 77), .q (.z 80 (.iadd 5 (.t 79) (.k (.c (.int .i64 0)))) 77), .q (.z 81 (.loadn 5 (.t 80)) 77), ⟨.z 82 (.call (.k (.fn 239 [])) [(.t 81)]) 77, true, 0⟩, .q (.m 71 0), .q (.f 72 3 3), .q (.l 73 72), .q (.o 74 (.iadd 5 (.t 73) (.k (.c (.int .i64 0))))), .q (.d 75 5 74), ⟨.o 83 (.pick (.t 77) (.k (.c (.bool true))) (.t 82)), false, 1⟩, ⟨.k 84 241 [(.t 71), (.t 75), (.t 83)], true, 1⟩]) (.seq (.reg [.m 85 0, .n 86 85, .f 87 1 86, .k 88 242 [(.t 87), (.k (.c (.int .u8 32)))]]) (.dreg [.m 89 0, .f 90 3 3, .l 91 90, .o 92 (.iadd 5 (.t 91) (.k (.c (.int .i64 1)))), .d 93 5 92, .f 94 3 3, .l 95 94, .o 96 (.iadd 5 (.t 95) (.k (.c (.int .i64 1)))), .d 97 5 96, .k 98 239 [(.t 97)], .m 99 98, .z 100 (.fadd 3 (.t 3)) 99, .z 101 (.load1 (.t 100)) 99, .z 102 (.iadd 5 (.t 101) (.k (.c (.int .i64 1)))) 99, .z 103 (.loadn 5 (.t 102)) 99, .z 104 (.call (.k (.fn 240 [])) [(.t 103)]) 99, .o 105 (.pick (.t 99) (.k (.c (.bool true))) (.t 104)), .k 106 241 [(.t 89), (.t 93), (.t 105)]] [.q (.f 94 3 3), .q (.l 95 94), .q (.o 96 (.iadd 5 (.t 95) (.k (.c (.int .i64 1))))), .q (.d 97 5 96), ⟨.k 98 239 [(.t 97)], true, 0⟩, ⟨.m 99 98, false, 1⟩, ⟨.z 100 (.fadd 3 (.t 3)) 99, false, 1⟩, ⟨.z 101 (.load1 (.t 100)) 99, false, 1⟩, ⟨.z 102 (.iadd 5 (.t 101) (.k (.c (.int .i64 1)))) 99, false, 1⟩, ⟨.z 103 (.loadn 5 (.t 102)) 99, false, 1⟩, ⟨.z 104 (.call (.k (.fn 240 [])) [(.t 103)]) 99, true, 1⟩, .q (.m 89 0), .q (.f 90 3 3), .q (.l 91 90), .q (.o 92 (.iadd 5 (.t 91) (.k (.c (.int .i64 1))))), .q (.d 93 5 92), ⟨.o 105 (.pick (.t 99) (.k (.c (.bool true))) (.t 104)), false, 2⟩, ⟨.k 106 241 [(.t 89), (.t 93), (.t 105)], true, 2⟩])))) (.reg [.m 20 0, .d 21 5 3, .k 22 243 [(.t 20), (.t 21)]])))))))))
def r151 : List ResV := []
theorem k151 : CodeIs Tryz.prog 151 2 Tryz.f151 c151 r151 := .auto Tryz.func151
def c235 : AC := .seq (.reg [.o 2 (.box (.t 0)), .o 3 (.mov (.k (.c (.bool false))))]) (.seq (.reg [.d 4 3 1, .d 5 3 2, .k 6 236 [(.t 4), (.t 5)], .m 3 6]) (.ret))
def r235 : List ResV := [.tmp 3]
theorem k235 : CodeIs Tryz.prog 235 2 Tryz.f235 c235 r235 := .auto Tryz.func235
def c237 : AC := .seq (.reg [.o 2 (.box (.t 0)), .o 3 (.mov (.k (.c (.bool false))))]) (.seq (.reg [.d 4 3 1, .d 5 3 2, .k 6 238 [(.t 4), (.t 5)], .m 3 6]) (.ret))
def r237 : List ResV := [.tmp 3]
theorem k237 : CodeIs Tryz.prog 237 2 Tryz.f237 c237 r237 := .auto Tryz.func237
def c241 : AC := .seq (.reg [.o 4 (.box (.t 1))]) (.seq (.seq (.reg [.m 6 2]) (.cond (.t 6) (.seq (.reg [.m 7 0, .n 8 7, .f 9 1 8, .k 10 242 [(.t 9), (.k (.c (.int .u8 40)))]]) (.reg [.m 11 0, .n 12 11, .f 13 1 12, ⟨none, .bad, none⟩])) (.skip))) (.reg [.m 14 0, .d 15 5 4, .k 16 151 [(.t 14), (.t 15)]]))
def r241 : List ResV := []
theorem k241 : CodeIs Tryz.prog 241 3 Tryz.f241 c241 r241 := .auto Tryz.func241
end
end Go.Proofs.YtpcmcfajfnpjeaaGreatDoor

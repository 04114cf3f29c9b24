/- . -/
import Derived.Test.YtpcmcfajfnpjeaaGreatDoorQJ35
import Derived.Lib.ItoaLen
import Derived.Test.YtpcmcfajfnpjeaaGreatDoorQJ14
import Derived.Test.YtpcmcfajfnpjeaaGreatDoorQLexBk
import Derived.Test.YtpcmcfajfnpjeaaGreatDoorChecked
set_option linter.unusedSimpArgs false
set_option linter.unusedVariables false
set_option maxHeartbeats 8000000
set_option maxRecDepth 20000
namespace Go.Lamb
open Go Go.RowKit
end Go.Lamb
namespace Go.Proofs.YtpcmcfajfnpjeaaGreatDoor
open Go.RowKit Go.Lamb
attribute [local go_sem] advO_skip advO_reg advO_seq advO_block advO_exit advO_endb advO_opsNil advO_ops advG_yes advG_no advG_none advS_some advS_none advO_cond advO_loop advO_dreg advO_ret advO_bad advO_inv advO_nil advO_zero wantedV Lamb.step ev_t ev_k put_some put_none argEnv popTo cellsAt V.cellsV V.rows V.sub V.toC toCs fillV bytesC byteRows appV rowsV boundV boundL binV binInt binStr eqC eqL V.isNil leaves V.leaf Ins.quiet Ins.pure List.getD_cons_zero List.getD_cons_succ List.getD_nil List.all_cons List.all_nil List.length_cons List.length_nil List.take_succ_cons List.take_zero List.drop_succ_cons List.drop_zero List.cons_append List.nil_append List.append_nil List.append_assoc List.map_cons List.map_nil List.getElem?_cons_zero List.getElem?_cons_succ List.length_append List.length_set hget0 hget hset0 hset hsets hgs0 hgs hss0 hss List.set_cons_zero List.set_cons_succ List.forall_mem_cons List.not_mem_nil false_implies implies_true Option.map_some Bool.and_true Bool.true_and Bool.not_not Bool.not_true Bool.not_false Bool.and_self Bool.or_true Bool.true_or Bool.or_false Bool.false_or Bool.and_false Bool.false_and Bool.false_eq_true beq_self_eq_true and_self and_true true_and if_true if_false Nat.zero_add Nat.add_zero Nat.le_refl Int.toNat_natCast decide_true decide_false beq_t beq_f List.length_map List.getElem?_map I S B opsC toksC OpT.v OpT.cs OpT.zero Tok.v Tok.cs Pre.v Pre.cs_eq k_mk name_mk n_mk l_mk pos_mk Pre.app applyL natCast0 natCast1 natCast2 AOp.o AOp.m AOp.f AOp.l AOp.d AOp.n AOp.x AOp.s AOp.k AOp.y AOp.z EOp.q low_c low_void low_any low_csl low_nilf low_ptr low_osl low_agg low_tup low_fn resEval advPO_nil advPO_loud advPO_quiet pL_yes pL_no pLS_some pLS_none pQ_yes pQ_no pQS_some pQS_loud eq_self Nat.sub_zero
end Go.Proofs.YtpcmcfajfnpjeaaGreatDoor
namespace Go.Lamb
open Go Go.RowKit
def nmX (n:Nat):Str:=120 :: Lib.decDigits n
end Go.Lamb
namespace Go.Lamb
open Go Go.RowKit

end Go.Lamb
namespace Go.Lamb
open Go Go.RowKit
mutual
def nodesM:Typ → Nat
 | .mk _ _ _ l=>1 + nodesMs l
def nodesMs:List Typ → Nat
 | []=>0
 | p :: l=>nodesM p + nodesMs l
end
theorem nodesM_eq (p:Typ):nodesM p = 1 + nodesMs p.l:=by cases p;rw [nodesM];rfl
theorem nodesMs_mem:∀ {l:List Typ} {u:Typ},u ∈ l → nodesM u ≤ nodesMs l
 | x :: l,u,h=>by
   rw [nodesMs]
   rcases List.mem_cons.1 h with rfl | h
   ·omega
   ·have:=nodesMs_mem h;omega
theorem nodesM_mem {t u:Typ} (h:u ∈ t.l):nodesM u < nodesM t:=by rw [nodesM_eq t];have:=nodesMs_mem h;omega
mutual
theorem leftT_nodesM:∀ (p:Typ) (n:Int),0 ≤ leftT p n → leftT p n = n - nodesM p
 | .mk _ _ _ l,n,h=>by
   rw [leftT] at h ⊢
   rw [leftTs_nodesM l (n - 1) h,nodesM]
   omega
theorem leftTs_nodesM:∀ (l:List Typ) (n:Int),0 ≤ leftTs l n → leftTs l n = n - nodesMs l
 | [],n,h=>by rw [leftTs,nodesMs];omega
 | p :: l,n,h=>by
   rw [leftTs] at h ⊢
   by_cases h0:0 ≤ n
   ·rw [if_pos h0] at h ⊢
    by_cases h1:0 ≤ leftT p n
    ·rw [leftTs_nodesM l _ h,leftT_nodesM p n h1,nodesMs]
     omega
    ·rw [leftTs_neg h1] at h;exact absurd h h1
   ·rw [if_neg h0] at h;exact absurd h h0
end
theorem nodeM_kinds {t:Typ} (h:nodeM t = true):t.k = 0 ∨ t.k = 1 ∨ t.k = 2 ∨ t.k = 3 ∨ t.k = 4 ∨ t.k = 5 ∨ t.k = 6:=by
 unfold nodeM at h
 repeat' split at h
 all_goals first | omega | (cases h;done)
end Go.Lamb
namespace Go.Lamb
open Go Go.RowKit

def applyM (f:Typ) (args:List Typ):Typ:=if args = [] then f else .mk 6 [] 0 ((if f.k = 6 ∧ f.l ≠ [] then f.l else [f]) ++ args)
def withM (t:Typ) (l:List Typ):Typ:=if t.k = 6 ∧ 1 < l.length ∧ (l.headD .none).k = 6 ∧ (t.l.headD .none).k ≠ 6 then applyM (l.headD .none) l.tail else .mk t.k t.name t.n l
mutual
def walkM (f:Typ → Int → Typ) (k:Int):Typ → Typ
 | .mk kd a n l=>if kd = 5 then withM (.mk kd a n l) (walksM f (k + 1) l) else if kd = 6 then withM (.mk kd a n l) (walksM f k l) else f (.mk kd a n l) k
def walksM (f:Typ → Int → Typ) (k:Int):List Typ → List Typ
 | []=>[]
 | x :: l=>walkM f k x :: walksM f k l
end
theorem walksM_map (f:Typ → Int → Typ) (k:Int) (l:List Typ):walksM f k l = l.map (walkM f k):=by
 induction l with
 | nil=>rfl
 | cons x l ih=>rw [walksM,ih];rfl
theorem walkM_eq (f:Typ → Int → Typ) (k:Int) (t:Typ):walkM f k t = if t.k = 5 then withM t (t.l.map (walkM f (k + 1))) else if t.k = 6 then withM t (t.l.map (walkM f k)) else f t k:=by
 cases t
 rw [walkM,walksM_map,walksM_map]
 rfl
def shiftF (a b:Int):Typ → Int → Typ:=fun u k=>if u.k = 3 ∧ u.n ≥ k + a then .mk u.k u.name (u.n + b) u.l else u
def shiftM (a b:Int) (t:Typ):Typ:=walkM (shiftF a b) 0 t
def substF (i:Int) (s:Typ):Typ → Int → Typ:=fun u k=>if u.k ≠ 3 ∨ u.n < k + i then u else if u.n = k + i then shiftM 0 k s else .mk u.k u.name (u.n - 1) u.l
def substM (i:Int) (s:Typ) (t:Typ):Typ:=walkM (substF i s) 0 t
/-! ### terms that may be -/
theorem valid_kids {t:Typ} (h:validM t = true):∀ u ∈ t.l,validM u = true:=by
 rw [validM_eq,Bool.and_eq_true] at h
 exact List.all_eq_true.1 h.2
theorem valid_node {t:Typ} (h:validM t = true):nodeM t = true:=by
 rw [validM_eq,Bool.and_eq_true] at h
 exact h.1
theorem valid_of {t:Typ} (h:nodeM t = true) (k:∀ u ∈ t.l,validM u = true):validM t = true:=by
 rw [validM_eq,Bool.and_eq_true]
 exact ⟨h,List.all_eq_true.2 k⟩
theorem near_kids {m:Int} {t:Typ} (h:nearM m t = true):∀ u ∈ t.l,nearM m u = true:=by
 rw [nearM_eq,Bool.and_eq_true] at h
 exact List.all_eq_true.1 h.2
theorem near_node {m:Int} {t:Typ} (h:nearM m t = true) (hk:t.k ≠ 2):-m ≤ t.n ∧ t.n ≤ m:=by
 rw [nearM_eq,Bool.and_eq_true] at h
 have h:=h.1
 simp [hk] at h
 omega
theorem near_of {m:Int} {t:Typ} (h:t.k = 2 ∨ (-m ≤ t.n ∧ t.n ≤ m)) (k:∀ u ∈ t.l,nearM m u = true):nearM m t = true:=by
 rw [nearM_eq,Bool.and_eq_true]
 refine ⟨?_,List.all_eq_true.2 k⟩
 rcases h with h | h
 ·simp [h]
 ·simp only [Bool.or_eq_true,Bool.not_eq_true',Bool.or_eq_false_iff,decide_eq_false_iff_not]
  right;omega
theorem near_more {m m':Int} (hm:m ≤ m') (t:Typ):nearM m t = true → nearM m' t = true:=by
 refine Typ.ind (P:=fun t=>nearM m t = true → nearM m' t = true) (fun t ih h=>?_) t
 refine near_of ?_ (fun u hu=>ih u hu (near_kids h u hu))
 by_cases hk:t.k = 2
 ·exact .inl hk
 ·have:=near_node h hk;right;omega
theorem valid_app {t:Typ} (h:validM t = true) (hk:t.k = 6):t.n = 0 ∧ t.name = [] ∧ ∃ a b l,t.l = a :: b :: l ∧ a.k ≠ 6:=by
 have hn:=valid_node h
 unfold nodeM at hn
 simp [hk] at hn
 obtain ⟨⟨⟨h1,h2⟩,h3⟩,h4⟩:=hn
 match hl:t.l,h2 with
 | a :: b :: l,_=>exact ⟨h1,h4,a,b,l,rfl,by rw [hl] at h3;exact h3⟩
theorem valid_lam {t:Typ} (h:validM t = true) (hk:t.k = 5):t.n = 0 ∧ t.name = [] ∧ ∃ b,t.l = [b]:=by
 have hn:=valid_node h
 unfold nodeM at hn
 simp [hk] at hn
 obtain ⟨⟨h1,h2⟩,h3⟩:=hn
 match hl:t.l,h3 with
 | [b],_=>exact ⟨h1,h2,b,rfl⟩
theorem valid_mkApp {a b:Typ} {l:List Typ} (ha:a.k ≠ 6) (h:∀ u ∈ a :: b :: l,validM u = true):validM (.mk 6 [] 0 (a :: b :: l)) = true:=by
 refine valid_of ?_ h
 simp [nodeM,tk_mk,tn_mk,tl_mk,tname_mk,ha]
theorem valid_mkLam {b:Typ} (h:validM b = true):validM (.mk 5 [] 0 [b]) = true:=by
 refine valid_of ?_ (fun u hu=>?_)
 ·simp [nodeM,tk_mk,tn_mk,tl_mk,tname_mk]
 ·simp [tl_mk] at hu;rw [hu];exact h
theorem valid_leaf {t:Typ} (h:validM t = true) (h5:t.k ≠ 5) (h6:t.k ≠ 6):t.l = []:=by
 have hn:=valid_node h
 rcases nodeM_kinds hn with hk | hk | hk | hk | hk | hk | hk
 ·unfold nodeM at hn;simp [hk] at hn;exact hn.2
 ·unfold nodeM at hn;simp [hk] at hn;exact hn.2
 ·unfold nodeM at hn;simp [hk] at hn;exact hn.2
 ·unfold nodeM at hn;simp [hk] at hn;exact hn.2
 ·unfold nodeM at hn;simp [hk] at hn;exact hn.2
 ·exact absurd hk h5
 ·exact absurd hk h6
theorem applyM_cons (f b:Typ) (l:List Typ):applyM f (b :: l) = .mk 6 [] 0 ((if f.k = 6 ∧ f.l ≠ [] then f.l else [f]) ++ b :: l):=by
 unfold applyM;rw [if_neg (by simp)]
theorem applyM_nil (f:Typ):applyM f [] = f:=by unfold applyM;rw [if_pos rfl]
theorem applyM_plain {f b:Typ} {l:List Typ} (h:f.k ≠ 6):applyM f (b :: l) = .mk 6 [] 0 (f :: b :: l):=by
 rw [applyM_cons,if_neg (fun e=>h e.1)];rfl
theorem applyM_valid {f:Typ} {args:List Typ} (hf:validM f = true) (h:∀ u ∈ args,validM u = true):validM (applyM f args) = true:=by
 cases args with
 | nil=>rw [applyM_nil];exact hf
 | cons b l=>
   by_cases hk:f.k = 6
   ·obtain ⟨_,_,a,c,r,hl,ha⟩:=valid_app hf hk
    rw [applyM_cons,if_pos ⟨hk,by rw [hl];simp⟩,hl]
    refine valid_mkApp ha fun u hu=>?_
    have hu':u ∈ f.l ∨ u ∈ b :: l:=by rw [hl];simpa [or_assoc] using hu
    rcases hu' with hu | hu
    ·exact valid_kids hf u hu
    ·exact h u hu
   ·rw [applyM_plain hk]
    refine valid_mkApp hk fun u hu=>?_
    rcases List.mem_cons.1 hu with rfl | hu
    ·exact hf
    ·exact h u hu
theorem applyM_near {m:Int} {f:Typ} {args:List Typ} (hm:0 ≤ m) (hf:nearM m f = true) (h:∀ u ∈ args,nearM m u = true):nearM m (applyM f args) = true:=by
 unfold applyM
 split
 ·exact hf
 ·refine near_of (.inr (by simp [tn_mk];omega)) fun u hu=>?_
  simp only [tl_mk] at hu
  rcases List.mem_append.1 hu with hu | hu
  ·split at hu
   ·exact near_kids hf u hu
   ·simp at hu;rw [hu];exact hf
  ·exact h u hu
/-! ### shifted -/
theorem shift_kind (a b:Int) (t:Typ):∀ k,validM t = true → (walkM (shiftF a b) k t).k = t.k:=by
 refine Typ.ind (P:=fun t=>∀ k,validM t = true → (walkM (shiftF a b) k t).k = t.k) (fun t ih k h=>?_) t
 rw [walkM_eq]
 by_cases h5:t.k = 5
 ·rw [if_pos h5]
  unfold withM
  rw [if_neg (fun e=>by have:=e.1;omega)];rfl
 ·rw [if_neg h5]
  by_cases h6:t.k = 6
  ·rw [if_pos h6]
   obtain ⟨_,_,a',b',l,hl,ha⟩:=valid_app h h6
   have hka:=ih a' (by rw [hl];simp) k (valid_kids h a' (by rw [hl];simp))
   unfold withM
   rw [if_neg (fun e=>?_)]
   ·rfl
   ·rw [hl] at e;simp [hka,ha] at e
  ·rw [if_neg h6]
   unfold shiftF
   split <;> rfl
theorem shift_app {a b:Int} {t:Typ} (k:Int) (h:validM t = true) (h6:t.k = 6):walkM (shiftF a b) k t = .mk 6 [] 0 (t.l.map (walkM (shiftF a b) k)):=by
 obtain ⟨h1,h2,a',b',l,hl,ha⟩:=valid_app h h6
 have hka:=shift_kind a b a' k (valid_kids h a' (by rw [hl];simp))
 rw [walkM_eq,if_neg (by omega),if_pos h6]
 unfold withM
 rw [if_neg (fun e=>by rw [hl] at e;simp [hka,ha] at e),h6,h2,h1]
theorem shift_lam {a b:Int} {t:Typ} (k:Int) (h:validM t = true) (h5:t.k = 5):walkM (shiftF a b) k t = .mk 5 [] 0 (t.l.map (walkM (shiftF a b) (k + 1))):=by
 obtain ⟨h1,h2,_⟩:=valid_lam h h5
 rw [walkM_eq,if_pos h5]
 unfold withM
 rw [if_neg (fun e=>by have:=e.1;omega),h5,h2,h1]
theorem shift_valid {a b m:Int} (ha:0 ≤ a) (hb:0 ≤ b) (hm:0 ≤ m) (hmb:m + b ≤ 4611686018427387904) (t:Typ):∀ k,0 ≤ k → validM t = true → nearM m t = true → validM (walkM (shiftF a b) k t) = true ∧ nearM (m + b) (walkM (shiftF a b) k t) = true:=by
 refine Typ.ind (P:=fun t=>∀ k,0 ≤ k → validM t = true → nearM m t = true → validM (walkM (shiftF a b) k t) = true ∧ nearM (m + b) (walkM (shiftF a b) k t) = true) (fun t ih k hk h hn=>?_) t
 by_cases h5:t.k = 5
 ·obtain ⟨_,_,c,hl⟩:=valid_lam h h5
  have hc:c ∈ t.l:=by rw [hl];simp
  have:=ih c hc (k + 1) (by omega) (valid_kids h c hc) (near_kids hn c hc)
  rw [shift_lam k h h5,hl]
  refine ⟨valid_mkLam this.1,near_of (.inr (by simp [tn_mk];omega)) fun u hu=>?_⟩
  simp [tl_mk] at hu;rw [hu];exact this.2
 ·by_cases h6:t.k = 6
  ·obtain ⟨_,_,c,d,l,hl,hca⟩:=valid_app h h6
   have hu:∀ u ∈ t.l.map (walkM (shiftF a b) k),validM u = true ∧ nearM (m + b) u = true:=fun u hu=>by
    obtain ⟨x,hx,rfl⟩:=List.mem_map.1 hu
    exact ih x hx k hk (valid_kids h x hx) (near_kids hn x hx)
   rw [shift_app k h h6]
   rw [hl] at hu ⊢
   refine ⟨valid_mkApp ?_ fun u hx=>(hu u hx).1,near_of (.inr (by simp [tn_mk];omega)) fun u hx=>(hu u hx).2⟩
   rw [shift_kind a b c k (valid_kids h c (by rw [hl];simp))]
   exact hca
  ·rw [walkM_eq,if_neg h5,if_neg h6]
   have hl:=valid_leaf h h5 h6
   unfold shiftF
   split
   ·rename_i hs
    have hnn:=near_node hn (by omega)
    have hnm:t.name = []:=by have hv:=valid_node h;unfold nodeM at hv;simp [hs.1] at hv;exact hv.1.2
    refine ⟨valid_of ?_ (fun u hu=>by simp [tl_mk,hl] at hu),near_of (.inr (by simp [tn_mk];omega)) (fun u hu=>by simp [tl_mk,hl] at hu)⟩
    simp [nodeM,tk_mk,tn_mk,tl_mk,tname_mk,hs.1,hl,hnm]
    omega
   ·exact ⟨h,near_more (by omega) t hn⟩
end Go.Lamb
namespace Go.Lamb
open Go Go.RowKit
theorem nodesM_pos (t:Typ):1 ≤ nodesM t:=by rw [nodesM_eq];omega
theorem nodesMs_app:∀ (a b:List Typ),nodesMs (a ++ b) = nodesMs a + nodesMs b
 | [],b=>by rw [nodesMs];simp
 | x :: a,b=>by rw [List.cons_append,nodesMs,nodesMs,nodesMs_app a b];omega
theorem nodesM_mk (k:Int) (s:Str) (n:Int) (l:List Typ):nodesM (.mk k s n l) = 1 + nodesMs l:=by rw [nodesM]
theorem nodesM_with (t:Typ) (l:List Typ):nodesM (withM t l) ≤ 1 + nodesMs l:=by
 unfold withM
 split
 ·rename_i h
  obtain ⟨_,hl,hk,_⟩:=h
  match l,hl with
  | a :: b :: r,_=>
    simp only [List.headD_cons,List.tail_cons] at hk ⊢
    unfold applyM
    rw [if_neg (by simp),nodesM_mk,nodesMs_app,show nodesMs (a :: b :: r) = nodesM a + nodesMs (b :: r) from by rw [nodesMs]]
    split
    ·rw [nodesM_eq a];omega
    ·rw [nodesMs,nodesMs];omega
 ·rw [nodesM_mk];exact Nat.le_refl _
theorem nodesM_walk {g:Typ → Int → Typ} {C:Nat} (hC:1 ≤ C) (hg:∀ u (j:Nat),u.k ≠ 5 → u.k ≠ 6 → nodesM (g u (j:Int)) ≤ C * nodesM u) (t:Typ):∀ (k:Nat),nodesM (walkM g (k:Int) t) ≤ C * nodesM t:=by
 refine Typ.ind (P:=fun t=>∀ (k:Nat),nodesM (walkM g (k:Int) t) ≤ C * nodesM t) (fun t ih k=>?_) t
 have key:∀ (j:Nat) (l:List Typ),(∀ u ∈ l,u ∈ t.l) → nodesMs (l.map (walkM g (j:Int))) ≤ C * nodesMs l:=by
  intro j l
  induction l with
  | nil=>intro _;rw [List.map_nil,nodesMs];exact Nat.zero_le _
  | cons x l ihl=>
    intro h
    have h1:=ih x (h x (List.mem_cons_self ..)) j
    have h2:=ihl (fun u hu=>h u (List.mem_cons_of_mem _ hu))
    rw [List.map_cons,nodesMs,nodesMs,Nat.mul_add]
    omega
 have fin:∀ (j:Nat),nodesM (withM t (t.l.map (walkM g (j:Int)))) ≤ C * nodesM t:=fun j=>by
  have h1:=nodesM_with t (t.l.map (walkM g (j:Int)))
  have h2:=key j t.l (fun _ h=>h)
  rw [nodesM_eq t,Nat.mul_add]
  omega
 rw [walkM_eq]
 split
 ·exact fin (k + 1)
 ·split
  ·exact fin k
  ·exact hg t k (by assumption) (by assumption)
theorem kidsMs_len:∀ (l:List Typ),l.length ≤ nodesMs l
 | []=>Nat.zero_le _
 | p :: l=>by
   have:=kidsMs_len l
   rw [nodesMs,nodesM_eq,List.length_cons]
   omega
theorem kids_nodes (t:Typ):t.l.length ≤ nodesM t:=by
 have:=kidsMs_len t.l
 rw [nodesM_eq];omega
theorem shift_nodes (a b:Int) (t:Typ) (j:Nat):nodesM (walkM (shiftF a b) (j:Int) t) ≤ nodesM t:=by
 have h1:=nodesM_walk (g:=shiftF a b) (C:=1) (Nat.le_refl _) (fun v i _ _=>by
  unfold shiftF
  split
  ·rw [nodesM_mk,nodesM_eq v];omega
  ·omega) t j
 omega
theorem subst_nodes (i:Int) (s t:Typ) (j:Nat):nodesM (walkM (substF i s) (j:Int) t) ≤ nodesM s * nodesM t:=by
 refine nodesM_walk (nodesM_pos s) (fun v k _ _=>?_) t j
 have hs:=nodesM_pos s
 have hv:nodesM v ≤ nodesM s * nodesM v:=Nat.le_mul_of_pos_left _ hs
 have hv1:=nodesM_pos v
 have hss:nodesM s ≤ nodesM s * nodesM v:=Nat.le_mul_of_pos_right _ hv1
 unfold substF
 split
 ·exact hv
 ·split
  ·exact Nat.le_trans (shift_nodes 0 k s 0) hss
  ·rw [nodesM_mk]
   have:=nodesM_eq v
   omega
end Go.Lamb
namespace Go.Proofs.YtpcmcfajfnpjeaaGreatDoor
open Go.RowKit Go.Lamb
attribute [local go_sem] advO_skip advO_reg advO_seq advO_block advO_exit advO_endb advO_opsNil advO_ops advG_yes advG_no advG_none advS_some advS_none advO_cond advO_loop advO_dreg advO_ret advO_bad advO_inv advO_nil advO_zero wantedV Lamb.step ev_t ev_k put_some put_none argEnv popTo cellsAt V.cellsV V.rows V.sub V.toC toCs fillV bytesC byteRows appV rowsV boundV boundL binV binInt binStr eqC eqL V.isNil leaves V.leaf Ins.quiet Ins.pure List.getD_cons_zero List.getD_cons_succ List.getD_nil List.all_cons List.all_nil List.length_cons List.length_nil List.take_succ_cons List.take_zero List.drop_succ_cons List.drop_zero List.cons_append List.nil_append List.append_nil List.append_assoc List.map_cons List.map_nil List.getElem?_cons_zero List.getElem?_cons_succ List.length_append List.length_set hget0 hget hset0 hset hsets hgs0 hgs hss0 hss List.set_cons_zero List.set_cons_succ List.forall_mem_cons List.not_mem_nil false_implies implies_true Option.map_some Bool.and_true Bool.true_and Bool.not_not Bool.not_true Bool.not_false Bool.and_self Bool.or_true Bool.true_or Bool.or_false Bool.false_or Bool.and_false Bool.false_and Bool.false_eq_true beq_self_eq_true and_self and_true true_and if_true if_false Nat.zero_add Nat.add_zero Nat.le_refl Int.toNat_natCast decide_true decide_false beq_t beq_f List.length_map List.getElem?_map I S B opsC toksC OpT.v OpT.cs OpT.zero Tok.v Tok.cs Pre.v Pre.cs_eq k_mk name_mk n_mk l_mk pos_mk Pre.app applyL natCast0 natCast1 natCast2 AOp.o AOp.m AOp.f AOp.l AOp.d AOp.n AOp.x AOp.s AOp.k AOp.y AOp.z EOp.q low_c low_void low_any low_csl low_nilf low_ptr low_osl low_agg low_tup low_fn resEval advPO_nil advPO_loud advPO_quiet pL_yes pL_no pLS_some pLS_none pQ_yes pQ_no pQS_some pQS_loud eq_self Nat.sub_zero
section
attribute [local go_sem] Sg.v findV foundV Typ.v OpT.v nmX

end
section
attribute [local go_sem] Sg.v Typ.v Typ.cs_eq Pre.v Pre.cs_eq Pre.app tk_mk tname_mk tn_mk tl_mk

end
section
attribute [local go_sem] Sg.v Typ.v Typ.cs_eq Pre.v Pre.cs_eq Pre.app tk_mk tname_mk tn_mk tl_mk

end
section
attribute [local go_sem] Sg.v Typ.v Typ.cs_eq Pre.v Pre.cs_eq Pre.app tk_mk tname_mk tn_mk tl_mk

end
section
attribute [local go_sem] Sg.v Typ.v Typ.cs_eq Pre.v Pre.cs_eq Pre.app tk_mk tname_mk tn_mk tl_mk

end
section
attribute [local go_sem] Sg.v Typ.v Typ.cs_eq Pre.v Pre.cs_eq Pre.app tk_mk tname_mk tn_mk tl_mk

end
section
section
attribute [local go_sem] tysC
theorem slices_ConcatT (w0:World) (ls:List (List Typ)) (hn:ls.flatten.length ≤ 30000000000) (hls:ls.length ≤ 30000000000) (σ:H) :
  DC Tryz.prog w0 124 [.csl (ls.map fun r=>[tysC r])] σ (Same (.c (tysC ls.flatten)) σ):=by
 refine k124.go rfl (fun hok hsz=>?_)
 ((try refine W.a ?_);simp only [go_sem,seval,c124])
 refine W.loopP (fun i=>i ≤ ls.length) (fun i=>⟨(((((base.put (some 0) (.csl (ls.map fun r=>[tysC r]))).put (some 3) (I (ls.take i).flatten.length)).put (some 9) (.csl (ls.map fun r=>[tysC r]))).put (some 10) (I ls.length)).put (some 11) (I i)),σ⟩) (fun i=>ls.length - i) 0 (Nat.zero_le _) ?_ (fun i hi=>?_)
 ·(refine Lew.env ?_;exact lee_here)
 ·by_cases hlt:i < ls.length
  ·have h1:((i:Int) < (ls.length:Int)):=by omega
   have hx:ls[i]? = some ls[i]:=List.getElem?_eq_getElem hlt
   have hft:=flat_take hlt
   have hfl:(ls.take (i + 1)).flatten.length = (ls.take i).flatten.length + ls[i].length:=by rw [hft,List.length_append]
   have hle:=flat_le (ls:=ls) (i + 1)
   have hw:IntKind.i64.wrap ((i:Int) + 1) = ((i + 1:Nat):Int):=by rw [wrap_in] <;> omega
   have hw2:IntKind.i64.wrap (((ls.take i).flatten.length:Int) + (ls[i].length:Int)) = (((ls.take (i + 1)).flatten.length:Nat):Int):=by rw [wrap_in] <;> omega
   have hneg:¬ ((((ls.take (i + 1)).flatten.length:Nat):Int) < 0):=by omega
   ((try refine W.a ?_);simp only [go_sem,seval,h1])
   refine W.yes rfl ?_
   ((try refine W.a ?_);simp only [go_sem,seval,h1,nat0,hx,hw2,hneg])
   refine W.no rfl ?_
   ((try refine W.a ?_);simp only [go_sem,seval,hw])
   refine .inv ⟨i + 1,hlt,by omega,?_⟩
   (refine Lew.env ?_;exact lee_here)
  ·have h1:¬ ((i:Int) < (ls.length:Int)):=by omega
   have hi':i = ls.length:=by omega
   subst hi'
   ((try refine W.a ?_);simp only [go_sem,seval,h1])
   refine W.no rfl ?_
   ((try refine W.a ?_);simp only [go_sem,seval,List.take_length])
   (refine W.c1 (slices_GrowT w0 ls.flatten.length (by omega) _) ?_;simp only [go_sem,seval])
   refine W.loopP (fun i=>i ≤ ls.length) (fun i=>⟨((((base.put (some 6) (.osl σ.length ((ls.take i).flatten.map Typ.cs))).put (some 25) (.csl (ls.map fun r=>[tysC r]))).put (some 26) (I ls.length)).put (some 27) (I i)),σ ++ [.spare 30 4 (ls.take i).flatten.length]⟩) (fun i=>ls.length - i) 0 (Nat.zero_le _) ?_ (fun i hi=>?_)
   ·(refine Lew.env ?_;exact lee_here)
   ·by_cases hlt:i < ls.length
    ·have h1:((i:Int) < (ls.length:Int)):=by omega
     have hx:ls[i]? = some ls[i]:=List.getElem?_eq_getElem hlt
     have hft:=flat_take hlt
     have hfl:(ls.take (i + 1)).flatten.length = (ls.take i).flatten.length + ls[i].length:=by rw [hft,List.length_append]
     have hle:=flat_le (ls:=ls) (i + 1)
     have hb1:((ls.take i).flatten.length + ls[i].length) * 56 ≤ 140737488355328:=by omega
     have hb2:(ls.take i).flatten.length + ls[i].length ≤ 140737488355328:=by omega
     have hb3:∀ r ∈ ls[i].map Typ.cs,r.length = 4:=fun r hr=>by obtain ⟨o,_,rfl⟩:=List.mem_map.1 hr;rw [Typ.cs_eq];rfl
     have hta:(ls.take (i + 1)).flatten.map Typ.cs = (ls.take i).flatten.map Typ.cs ++ ls[i].map Typ.cs:=by rw [hft,List.map_append]
     have hw:IntKind.i64.wrap ((i:Int) + 1) = ((i + 1:Nat):Int):=by rw [wrap_in] <;> omega
     ((try refine W.a ?_);simp only [go_sem,seval,h1])
     refine W.yes rfl ?_
     ((try refine W.a ?_);simp only [go_sem,seval,h1,nat0,hx,hb1,hb2,eq_self,hw,eq_true hb3])
     refine .inv ⟨i + 1,hlt,by omega,?_⟩
     simp only [go_sem,seval,hta,hfl]
     (refine Lew.env ?_;exact lee_here)
    ·have h1:¬ ((i:Int) < (ls.length:Int)):=by omega
     have hi':i = ls.length:=by omega
     subst hi'
     ((try refine W.a ?_);simp only [go_sem,seval,h1])
     refine W.no rfl ?_
     ((try refine W.a ?_);simp only [go_sem,seval,List.take_length])
     (refine W.fs (hok) (by simp only [r124,go_sem,seval];rfl) ?_;simp only [resV];try exact V.wk.rfl _)
     (all_goals exact wk_here)
end
attribute [local go_sem] Typ.v Typ.cs_eq tk_mk tname_mk tn_mk tl_mk
theorem term_within (w0:World) (t:Typ) (σ:H):DC Tryz.prog w0 170 [t.v] σ (Same (.tup [.c (tysC (if t.k = 5 ∨ t.k = 6 then t.l else [])),I (if t.k = 5 then 1 else 0)]) σ):=by
 refine k170.go rfl (fun hok hsz=>?_)
 by_cases h5:t.k = 5
 ·have k5:(t.k == 5) = true:=by simp [h5]
  rw [if_pos (.inl h5),if_pos h5]
  clear h5
  (((try refine W.a ?_);(try simp only [bne,go_sem,seval,c170,k5, *]));(repeat' (first | (refine W.yes rfl ?_;(refine W.a ?_;simp only [bne,go_sem,seval,c170,k5, *])) | (refine W.no rfl ?_;(refine W.a ?_;simp only [bne,go_sem,seval,c170,k5, *])) | (refine W.testn rfl (fun hT=>?_) (fun hT=>?_) <;> (refine W.a ?_;simp only [bne,go_sem,seval,c170,k5, *])) | (refine W.test rfl (fun hT=>?_) (fun hT=>?_) <;> (refine W.a ?_;simp only [bne,go_sem,seval,c170,k5, *])) | (refine advG_ifn _ _ _ _ (fun hT=>?_) (fun hT=>?_) <;> simp only [bne,go_sem,seval,c170,k5, *]) | (refine advG_if _ _ _ _ (fun hT=>?_) (fun hT=>?_) <;> simp only [bne,go_sem,seval,c170,k5, *]))))
  all_goals (refine W.fs (hok) (by simp only [r170,go_sem,seval];rfl) ?_;simp only [resV];try exact V.wk.rfl _)
  all_goals (all_goals exact wk_here)
 ·rw [if_neg h5]
  have k5:(t.k == 5) = false:=by simp [h5]
  by_cases h6:t.k = 6
  ·have k6:(t.k == 6) = true:=by simp [h6]
   rw [if_pos (.inr h6)]
   clear h6 h5
   (((try refine W.a ?_);(try simp only [bne,go_sem,seval,c170,k5,k6, *]));(repeat' (first | (refine W.yes rfl ?_;(refine W.a ?_;simp only [bne,go_sem,seval,c170,k5,k6, *])) | (refine W.no rfl ?_;(refine W.a ?_;simp only [bne,go_sem,seval,c170,k5,k6, *])) | (refine W.testn rfl (fun hT=>?_) (fun hT=>?_) <;> (refine W.a ?_;simp only [bne,go_sem,seval,c170,k5,k6, *])) | (refine W.test rfl (fun hT=>?_) (fun hT=>?_) <;> (refine W.a ?_;simp only [bne,go_sem,seval,c170,k5,k6, *])) | (refine advG_ifn _ _ _ _ (fun hT=>?_) (fun hT=>?_) <;> simp only [bne,go_sem,seval,c170,k5,k6, *]) | (refine advG_if _ _ _ _ (fun hT=>?_) (fun hT=>?_) <;> simp only [bne,go_sem,seval,c170,k5,k6, *]))))
   all_goals (refine W.fs (hok) (by simp only [r170,go_sem,seval];rfl) ?_;simp only [resV];try exact V.wk.rfl _)
   all_goals (all_goals exact wk_here)
  ·have k6:(t.k == 6) = false:=by simp [h6]
   rw [if_neg (by omega)]
   clear h6 h5
   (((try refine W.a ?_);(try simp only [bne,go_sem,seval,c170,k5,k6, *]));(repeat' (first | (refine W.yes rfl ?_;(refine W.a ?_;simp only [bne,go_sem,seval,c170,k5,k6, *])) | (refine W.no rfl ?_;(refine W.a ?_;simp only [bne,go_sem,seval,c170,k5,k6, *])) | (refine W.testn rfl (fun hT=>?_) (fun hT=>?_) <;> (refine W.a ?_;simp only [bne,go_sem,seval,c170,k5,k6, *])) | (refine W.test rfl (fun hT=>?_) (fun hT=>?_) <;> (refine W.a ?_;simp only [bne,go_sem,seval,c170,k5,k6, *])) | (refine advG_ifn _ _ _ _ (fun hT=>?_) (fun hT=>?_) <;> simp only [bne,go_sem,seval,c170,k5,k6, *]) | (refine advG_if _ _ _ _ (fun hT=>?_) (fun hT=>?_) <;> simp only [bne,go_sem,seval,c170,k5,k6, *]))))
   all_goals (refine W.fs (hok) (by simp only [r170,go_sem,seval];rfl) ?_;simp only [resV];try exact V.wk.rfl _)
   all_goals (all_goals exact wk_here)
theorem term_Apply (w0:World) (f:Typ) (xs:List Typ) (hn:f.l.length + xs.length ≤ 29999999998) (σ:H):DC Tryz.prog w0 42 [f.v,.c (.sl (xs.map Typ.cs))] σ (Same (applyM f xs).v σ):=by
 refine k42.go rfl (fun hok hsz=>?_)
 by_cases h0:xs = []
 ·have e:applyM f xs = f:=by unfold applyM;rw [if_pos h0]
  rw [e]
  subst h0
  ((try refine W.a ?_);simp only [go_sem,seval,c42])
  refine W.yes rfl ?_
  ((try refine W.a ?_);simp only [go_sem,seval])
  (refine W.fs (hok) (by simp only [r42,go_sem,seval];rfl) ?_;simp only [resV];try exact V.wk.rfl _)
  all_goals (all_goals exact wk_here)
 have hl:0 < xs.length:=List.length_pos_iff.2 h0
 have q0:((xs.length:Int) == 0) = false:=by simp;omega
 have e:applyM f xs = .mk 6 [] 0 ((if f.k = 6 ∧ f.l ≠ [] then f.l else [f]) ++ xs):=by unfold applyM;rw [if_neg h0]
 rw [e]
 clear e
 have hC:=fun (h:List Typ) (hh:h.length ≤ 29999999999 - xs.length) σ=>slices_ConcatT w0 [h,xs] (by simp;omega) (by simp) σ
 simp only [List.map_cons,List.map_nil,List.flatten_cons,List.flatten_nil,List.append_nil,tysC] at hC
 by_cases h6:f.k = 6
 ·have k6:(f.k == 6) = true:=by simp [h6]
  by_cases hf:f.l = []
  ·rw [if_neg (fun h=>h.2 hf)]
   have q1:¬ ((f.l.length:Int) > 0):=by rw [hf];simp
   have hCc:=hC [f] (by simp only [List.length_cons,List.length_nil];omega)
   simp only [List.map_cons,List.map_nil,Typ.cs_eq] at hCc
   clear h6 hf
   ((try refine W.a ?_);simp only [go_sem,seval,c42,q0])
   refine W.no rfl ?_
   ((try refine W.a ?_);simp only [go_sem,seval,k6,q1])
   refine W.no rfl ?_
   ((try refine W.a ?_);simp only [go_sem,seval])
   (refine W.c1 (hCc _) ?_;simp only [go_sem,seval])
   ((try refine W.a ?_);simp only [go_sem,seval])
   (refine W.fs (hok) (by simp only [r42,go_sem,seval];rfl) ?_;simp only [resV];try exact V.wk.rfl _)
   all_goals (all_goals exact wk_here)
  ·rw [if_pos ⟨h6,hf⟩]
   have hp:0 < f.l.length:=List.length_pos_iff.2 hf
   have q1:((f.l.length:Int) > 0):=by omega
   have hCc:=hC f.l (by omega)
   clear h6 hf
   ((try refine W.a ?_);simp only [go_sem,seval,c42,q0])
   refine W.no rfl ?_
   ((try refine W.a ?_);simp only [go_sem,seval,k6,q1])
   refine W.yes rfl ?_
   ((try refine W.a ?_);simp only [go_sem,seval])
   (refine W.c1 (hCc _) ?_;simp only [go_sem,seval])
   ((try refine W.a ?_);simp only [go_sem,seval])
   (refine W.fs (hok) (by simp only [r42,go_sem,seval];rfl) ?_;simp only [resV];try exact V.wk.rfl _)
   all_goals (all_goals exact wk_here)
 ·rw [if_neg (fun h=>h6 h.1)]
  have k6:(f.k == 6) = false:=by simp [h6]
  have hCc:=hC [f] (by simp only [List.length_cons,List.length_nil];omega)
  simp only [List.map_cons,List.map_nil,Typ.cs_eq] at hCc
  clear h6
  ((try refine W.a ?_);simp only [go_sem,seval,c42,q0])
  refine W.no rfl ?_
  ((try refine W.a ?_);simp only [go_sem,seval,k6])
  refine W.no rfl ?_
  ((try refine W.a ?_);simp only [go_sem,seval])
  (refine W.c1 (hCc _) ?_;simp only [go_sem,seval])
  ((try refine W.a ?_);simp only [go_sem,seval])
  (refine W.fs (hok) (by simp only [r42,go_sem,seval];rfl) ?_;simp only [resV];try exact V.wk.rfl _)
  all_goals (all_goals exact wk_here)
end
section
def c84:AC:=.seq (.reg [.o 3 (.box (.t 0)),.o 4 (.box (.t 1)),.o 6 (.box (.k (.agg [.c (.int .i64 0),.c (.str []),.c (.int .i64 0),.csl []])))]) (.seq (.seq (.reg [.f 12 0 4,.l 13 12,.o 14 (.bin .neq (.t 13) (.k (.c (.int .i64 5)))),.m 15 14,.y 16 (.fadd 0 (.t 4)) 15,.y 17 (.load1 (.t 16)) 15,.y 18 (.bin .neq (.t 17) (.k (.c (.int .i64 6)))) 15,.o 19 (.pick (.t 15) (.t 18) (.k (.c (.bool false))))]) (.cond (.t 19) (.seq (.reg [.f 20 0 3,.l 21 20,.d 22 4 4,.m 23 2,.o 24 (.call (.t 21) [(.t 22),(.t 23)]),.s 4 6 24]) (.ret)) (.skip))) (.seq (.reg [.d 26 4 4,.k 27 170 [(.t 26)],.m 25 27,.x 28 25 0,.x 29 25 1,.m 7 28,.m 8 29]) (.seq (.reg [.o 9 (.mov (.k (.csl [])))]) (.seq (.seq (.reg [.m 30 7,.o 31 (.lenr (.t 30)),.o 32 (.mov (.k (.c (.int .i64 0))))]) (.block 0 (.loop (.seq (.reg [.o 33 (.bin .lss (.t 32) (.t 31))]) (.seq (.cond (.t 33) (.skip) (.exit 0)) (.seq (.block 1 (.seq (.reg [.o 34 (.iadd 4 (.t 30) (.t 32)),.d 35 4 34,.o 11 (.box (.k (.agg [.c (.int .i64 0),.c (.str []),.c (.int .i64 0),.csl []]))),.s 4 11 35]) (.reg [.m 36 9,.d 37 1 3,.d 38 4 11,.m 39 2,.m 40 8,.o 41 (.bin .add (.t 39) (.t 40)),.k 42 84 [(.t 37),(.t 38),(.t 41)],.o 43 (.bsl 4 [(.t 42)]),.o 44 (.app 30 4 56 (.t 36) (.t 43)),.m 9 44]))) (.reg [.o 45 (.bin .add (.t 32) (.k (.c (.int .i64 1)))),.m 32 45]))))))) (.seq (.seq (.reg [.f 46 0 4,.l 47 46,.o 48 (.bin .eql (.t 47) (.k (.c (.int .i64 6)))),.m 49 48,.y 50 (.mov (.t 9)) 49,.y 51 (.lenr (.t 50)) 49,.y 52 (.bin .gtr (.t 51) (.k (.c (.int .i64 1)))) 49,.o 53 (.pick (.t 49) (.t 52) (.k (.c (.bool false)))),.m 54 53,.y 55 (.mov (.t 9)) 54,.y 56 (.iadd 4 (.t 55) (.k (.c (.int .i64 0)))) 54,.y 57 (.fadd 0 (.t 56)) 54,.y 58 (.load1 (.t 57)) 54,.y 59 (.bin .eql (.t 58) (.k (.c (.int .i64 6)))) 54,.o 60 (.pick (.t 54) (.t 59) (.k (.c (.bool false)))),.m 61 60,.y 62 (.mov (.t 7)) 61,.y 63 (.iadd 4 (.t 62) (.k (.c (.int .i64 0)))) 61,.y 64 (.fadd 0 (.t 63)) 61,.y 65 (.load1 (.t 64)) 61,.y 66 (.bin .neq (.t 65) (.k (.c (.int .i64 6)))) 61,.o 67 (.pick (.t 61) (.t 66) (.k (.c (.bool false))))]) (.cond (.t 67) (.seq (.dreg [.m 68 9,.o 69 (.iadd 4 (.t 68) (.k (.c (.int .i64 0)))),.d 70 4 69,.m 71 9,.o 72 (.slr 4 (.t 71) (some (.k (.c (.int .i64 1)))) none none),.k 73 42 [(.t 70),(.t 72)],.s 4 6 73] [.q (.m 68 9),.q (.o 69 (.iadd 4 (.t 68) (.k (.c (.int .i64 0))))),.q (.d 70 4 69),.q (.m 71 9),.q (.o 72 (.slr 4 (.t 71) (some (.k (.c (.int .i64 1)))) none none)),⟨.k 73 42 [(.t 70),(.t 72)],true,0⟩,⟨.s 4 6 73,true,1⟩]) (.ret)) (.skip))) (.seq (.reg [.f 74 0 4,.l 75 74,.f 76 1 4,.l 77 76,.f 78 2 4,.l 79 78,.m 80 9,.o 81 (.build [.c (.int .i64 0),.c (.str []),.c (.int .i64 0),.csl []] [(0,1,(.t 75)),(1,1,(.t 77)),(2,1,(.t 79)),(3,1,(.t 80))]),.s 4 6 81]) (.ret)))))))
def r84:List ResV:=[.celln 4 6]
theorem k84:CodeIs Tryz.prog 84 3 Tryz.f84 c84 r84:=.auto Tryz.func84
def c83:AC:=.seq (.reg [.o 3 (.box (.t 0)),.o 4 (.box (.t 1)),.o 5 (.box (.t 2)),.o 6 (.box (.k (.agg [.c (.int .i64 0),.c (.str []),.c (.int .i64 0),.csl []])))]) (.seq (.reg [.o 7 (.mkfn 172 [(.t 4),(.t 5)]),.o 8 (.build [.nilf] [(0,1,(.t 7))]),.d 9 4 3,.k 10 84 [(.t 8),(.t 9),(.k (.c (.int .i64 0)))],.s 4 6 10]) (.ret))
def r83:List ResV:=[.celln 4 6]
theorem k83:CodeIs Tryz.prog 83 3 Tryz.f83 c83 r83:=.auto Tryz.func83
def c172:AC:=.seq (.reg [.o 4 (.box (.t 0)),.o 6 (.box (.k (.agg [.c (.int .i64 0),.c (.str []),.c (.int .i64 0),.csl []])))]) (.seq (.seq (.reg [.f 7 0 4,.l 8 7,.o 9 (.bin .eql (.t 8) (.k (.c (.int .i64 3)))),.m 10 9,.y 11 (.fadd 2 (.t 4)) 10,.y 12 (.load1 (.t 11)) 10,.y 13 (.mov (.t 1)) 10,.y 14 (.load1 (.t 2)) 10,.y 15 (.bin .add (.t 13) (.t 14)) 10,.y 16 (.bin .geq (.t 12) (.t 15)) 10,.o 17 (.pick (.t 10) (.t 16) (.k (.c (.bool false))))]) (.cond (.t 17) (.seq (.reg [.d 18 4 4,.l 19 3,.k 20 173 [(.t 18),(.t 19)],.s 4 6 20]) (.ret)) (.skip))) (.seq (.reg [.d 21 4 4,.s 4 6 21]) (.ret)))
def r172:List ResV:=[.celln 4 6]
theorem k172:CodeIs Tryz.prog 172 4 Tryz.f172 c172 r172:=.auto Tryz.func172
def c138:AC:=.seq (.reg [.o 3 (.box (.t 0)),.o 4 (.box (.t 1)),.o 5 (.box (.t 2)),.o 6 (.box (.k (.agg [.c (.int .i64 0),.c (.str []),.c (.int .i64 0),.csl []])))]) (.seq (.reg [.o 7 (.mkfn 227 [(.t 4),(.t 5)]),.o 8 (.build [.nilf] [(0,1,(.t 7))]),.d 9 4 3,.k 10 84 [(.t 8),(.t 9),(.k (.c (.int .i64 0)))],.s 4 6 10]) (.ret))
def r138:List ResV:=[.celln 4 6]
theorem k138:CodeIs Tryz.prog 138 3 Tryz.f138 c138 r138:=.auto Tryz.func138
def c227:AC:=.seq (.reg [.o 4 (.box (.t 0)),.o 6 (.box (.k (.agg [.c (.int .i64 0),.c (.str []),.c (.int .i64 0),.csl []])))]) (.seq (.block 0 (.seq (.reg [.f 8 0 4,.l 9 8,.o 10 (.bin .neq (.t 9) (.k (.c (.int .i64 3)))),.m 11 10,.z 12 (.fadd 2 (.t 4)) 11,.z 13 (.load1 (.t 12)) 11,.z 14 (.mov (.t 1)) 11,.z 15 (.load1 (.t 2)) 11,.z 16 (.bin .add (.t 14) (.t 15)) 11,.z 17 (.bin .lss (.t 13) (.t 16)) 11,.o 18 (.pick (.t 11) (.k (.c (.bool true))) (.t 17)),.m 7 18]) (.cond (.t 7) (.seq (.reg [.d 19 4 4,.s 4 6 19]) (.ret)) (.seq (.reg [.f 21 2 4,.l 22 21,.m 23 1,.l 24 2,.o 25 (.bin .add (.t 23) (.t 24)),.o 26 (.bin .eql (.t 22) (.t 25)),.m 20 26]) (.cond (.t 20) (.seq (.reg [.d 27 4 3,.m 28 1,.k 29 83 [(.t 27),(.k (.c (.int .i64 0))),(.t 28)],.s 4 6 29]) (.ret)) (.skip)))))) (.seq (.reg [.d 30 4 4,.k 31 173 [(.t 30),(.k (.c (.int .i64 (-1))))],.s 4 6 31]) (.ret)))
def r227:List ResV:=[.celln 4 6]
theorem k227:CodeIs Tryz.prog 227 4 Tryz.f227 c227 r227:=.auto Tryz.func227
def c173:AC:=.seq (.reg [.o 2 (.box (.t 0)),.o 4 (.box (.k (.agg [.c (.int .i64 0),.c (.str []),.c (.int .i64 0),.csl []])))]) (.seq (.reg [.f 5 2 2,.l 6 5,.m 7 1,.o 8 (.bin .add (.t 6) (.t 7)),.f 9 2 2,.s 1 9 8]) (.seq (.reg [.d 10 4 2,.s 4 4 10]) (.ret)))
def r173:List ResV:=[.celln 4 4]
theorem k173:CodeIs Tryz.prog 173 2 Tryz.f173 c173 r173:=.auto Tryz.func173
end
section
attribute [local go_sem] Typ.v Typ.cs_eq tk_mk tname_mk tn_mk tl_mk tysC
structure LeafR (w0:World) (E:H → Prop) (Pp:Typ → Prop) (g:Typ → Int → Typ) (fid:FuncId) (caps:List V):Prop where
 more:∀ σ L,E σ → E (σ ++ L)
 low:∀ σ,E σ → ∀ x ∈ caps,V.low σ.length x
 kid:∀ u,Pp u → ∀ v ∈ u.l,Pp v
 len:∀ u,Pp u → u.l.length ≤ 12000000000
 big:∀ u,Pp u → ∀ j:Nat,(walkM g (j:Int) u).l.length ≤ 12000000000
 leaf:∀ σ,E σ → ∀ u (j:Nat),Pp u → j ≤ 30000000000 → u.k ≠ 5 → u.k ≠ 6 → DC Tryz.prog w0 fid ([u.v,I (j:Int)] ++ caps) σ (Same (g u (j:Int)).v σ)
theorem walk_term {w0:World} {E:H → Prop} {Pp:Typ → Prop} {g:Typ → Int → Typ} {fid:FuncId} {caps:List V} (hR:LeafR w0 E Pp g fid caps) (t:Typ):Pp t → ∀ (k:Nat),k + nodesM t ≤ 30000000000 → ∀ σ,E σ → DC Tryz.prog w0 84 [.agg [.fn fid caps],t.v,I (k:Int)] σ (Same (walkM g (k:Int) t).v σ):=by
 refine Typ.ind (P:=fun t=>Pp t → ∀ (k:Nat),k + nodesM t ≤ 30000000000 → ∀ σ,E σ → DC Tryz.prog w0 84 [.agg [.fn fid caps],t.v,I (k:Int)] σ (Same (walkM g (k:Int) t).v σ)) (fun t ih hp k hk σ hσ=>?_) t
 refine k84.go rfl (fun hok hsz=>?_)
 by_cases hlf:t.k ≠ 5 ∧ t.k ≠ 6
 ·have hc:=fun L=>hR.leaf (σ ++ L) (hR.more _ _ hσ) t k hp (by omega) hlf.1 hlf.2
  rw [walkM_eq,if_neg hlf.1,if_neg hlf.2]
  have k5:(t.k == 5) = false:=by simp [hlf.1]
  have k6:(t.k == 6) = false:=by simp [hlf.2]
  clear hlf
  ((try refine W.a ?_);simp only [go_sem,seval,c84,bne,k5,k6])
  refine W.yes rfl ?_
  ((try refine W.a ?_);simp only [go_sem,seval])
  (refine W.c1 (hc _) ?_;simp only [go_sem,seval])
  ((try refine W.a ?_);simp only [go_sem,seval])
  (refine W.fs (hok) (by simp only [r84,go_sem,seval];rfl) ?_;simp only [resV];try exact V.wk.rfl _)
  all_goals (all_goals exact wk_here)
 obtain ⟨B,hB,hwk,hwi⟩:∃ B:Nat,B ≤ 1 ∧ walkM g (k:Int) t = withM t (t.l.map (walkM g ((k + B:Nat):Int))) ∧ ∀ σ,DC Tryz.prog w0 170 [t.v] σ (Same (.tup [.c (tysC t.l),I (B:Int)]) σ):=by
  by_cases h5:t.k = 5
  ·refine ⟨1,Nat.le_refl _,?_,fun σ=>?_⟩
   ·rw [walkM_eq,if_pos h5];rfl
   ·have:=term_within w0 t σ
    rwa [if_pos (.inl h5),if_pos h5] at this
  ·have h6:t.k = 6:=by omega
   refine ⟨0,by decide,?_,fun σ=>?_⟩
   ·rw [walkM_eq,if_neg h5,if_pos h6];rfl
   ·have:=term_within w0 t σ
    rwa [if_pos (.inr h6),if_neg h5] at this
 rw [hwk]
 clear hwk
 have hlen:=hR.len t hp
 obtain ⟨o,ho⟩:∃ o,o = t.l.map (walkM g ((k + B:Nat):Int)):=⟨_,rfl⟩
 have hol:o.length = t.l.length:=by rw [ho,List.length_map]
 have hkids:∀ i (hi:i < t.l.length) (hi':i < o.length) L,DC Tryz.prog w0 84 [.agg [.fn fid caps],t.l[i].v,I ((k + B:Nat):Int)] (σ ++ L) (Same o[i].v (σ ++ L)):=fun i hi hi' L=>by
  have hm:=List.getElem_mem hi
  have:=nodesM_mem hm
  have e:o[i] = walkM g ((k + B:Nat):Int) t.l[i]:=by simp [ho]
  rw [e]
  exact ih _ hm (hR.kid t hp _ hm) (k + B) (by omega) _ (hR.more _ _ hσ)
 have hbig:∀ u ∈ o,u.l.length ≤ 12000000000:=fun u hu=>by
  rw [ho] at hu
  obtain ⟨v,hv,rfl⟩:=List.mem_map.1 hu
  exact hR.big v (hR.kid t hp v hv) _
 rw [← ho]
 clear ho
 have hw0:IntKind.i64.wrap ((k:Int) + (B:Int)) = ((k + B:Nat):Int):=by rw [wrap_in] <;> omega
 have hor:(t.k == 5) = true ∧ (t.k == 6) = false ∨ (t.k == 5) = false ∧ (t.k == 6) = true:=by
  by_cases h5:t.k = 5
  ·exact .inl ⟨by simp [h5],by simp [h5]⟩
  ·exact .inr ⟨by simp [h5],by simp;omega⟩
 have hfl:∀ n,σ.length ≤ n → ((∀ x,x ∈ caps → V.low n x) ↔ True):=fun n hn=>by
  simp only [iff_true]
  exact fun x hx=>V.low_mono hn (hR.low σ hσ x hx)
 have hfl4:=hfl (σ.length + 4) (by omega)
 obtain ⟨z,hz⟩:∃ z,z = withM t o:=⟨_,rfl⟩
 rw [← hz]
 have hst:W Tryz.prog w0 σ.length (Lamb.Fin r84 σ.length (Same z.v σ)) [.code c84] ⟨argEnv [.agg [.fn fid caps],t.v,I (k:Int)],σ⟩:=by
  rcases hor with ⟨k5,k6⟩ | ⟨k5,k6⟩
  all_goals clear hlf
  all_goals (
   ((try refine W.a ?_);simp only [go_sem,seval,c84,bne,k5,k6])
   refine W.no rfl ?_
   ((try refine W.a ?_);simp only [go_sem,seval])
   (refine W.c1 (hwi _) ?_;simp only [go_sem,seval])
   ((try refine W.a ?_);simp only [go_sem,seval])
   refine W.own 9 30 4 rfl ?_
   ((try refine W.a ?_);simp only [go_sem,seval])
   refine W.loopP (fun i=>i ≤ t.l.length) (fun i=>⟨((((((((((base.put (some 2) (I (k:Int))).put (some 3) (.ptr σ.length 0)).put (some 4) (.ptr (σ.length + 1) 0)).put (some 6) (.ptr (σ.length + 2) 0)).put (some 7) (.c (.sl (t.l.map Typ.cs)))).put (some 8) (I (B:Int))).put (some 9) (.osl (σ.length + 3) ((o.take i).map Typ.cs))).put (some 30) (.c (.sl (t.l.map Typ.cs)))).put (some 31) (I (t.l.length:Int))).put (some 32) (I (i:Int))),σ ++ [.cells [.fn fid caps],.cells t.v.cellsV,.cells [I 0,S [],I 0,.csl []],.spare 30 4 i]⟩) (fun i=>t.l.length - i) 0 (Nat.zero_le _) ?_ (fun i hi=>?_)
   ·(refine Lew.env ?_;exact lee_here)
   by_cases hlt:i < t.l.length
   ·have hlt':i < o.length:=by omega
    have h1:(i:Int) < (t.l.length:Int):=by omega
    have h0:(0:Int) ≤ (i:Int):=by omega
    have hx:t.l[i]? = some t.l[i]:=List.getElem?_eq_getElem hlt
    have hw:IntKind.i64.wrap ((i:Int) + 1) = ((i + 1:Nat):Int):=by rw [wrap_in] <;> omega
    have hb1:(i + 1) * 56 ≤ 140737488355328:=by omega
    have hb2:i ≤ 140737488355327:=by omega
    have hti:(o.take i).length = i:=by rw [List.length_take];omega
    have hts:(o.take (i + 1)).map Typ.cs = (o.take i).map Typ.cs ++ [[.int .i64 o[i].k,.str o[i].name,.int .i64 o[i].n,.sl (o[i].l.map Typ.cs)]]:=by
     rw [List.take_succ_eq_append_getElem hlt',List.map_append,List.map_cons,List.map_nil,Typ.cs_eq]
    have hki:=fun L=>hkids i hlt hlt' L
    ((try refine W.a ?_);simp only [go_sem,seval,h1])
    refine W.yes rfl ?_
    ((try refine W.a ?_);simp only [go_sem,seval,h1,h0,hx,hw0])
    (refine W.c1 (hki _) ?_;simp only [go_sem,seval])
    ((try refine W.a ?_);simp only [go_sem,seval,hb1,hb2,hti,hw])
    refine .inv ⟨i + 1,hlt,by omega,?_⟩
    simp only [go_sem,seval,hts]
    (refine Lew.cutL (hok) ?_ (by simp) (by simp) ?_ ?_ ?_;exact lee_here;((try simp only [okB,wkB,go_sem,seval,hfl4]) <;> omega);(simp only [List.length_cons,List.length_nil,Nat.reduceAdd,List.take_succ_cons,List.take_zero,wkB,and_true];(repeat' (refine And.intro ?_ ?_)) <;> (first | exact Blk.wk.rfl _ | exact Blk.wk.gone _ | (refine Blk.wk_cells ?_ rfl;(exact wk_here))));(repeat' (first | exact LowE.base _ | (refine LowE.put ?_ (by first | exact .c _ | ((try simp only [okB,wkB,go_sem,seval,hfl4]) <;> omega))))))
   obtain rfl:i = t.l.length:=by omega
   have h1:¬ ((t.l.length:Nat):Int) < ((t.l.length:Nat):Int):=by omega
   have hta:o.take t.l.length = o:=by rw [← hol,List.take_length]
   rw [hta]
   ((try refine W.a ?_);simp only [go_sem,seval,h1])
   refine W.no rfl ?_
   skip)
  ·have hz':z = .mk t.k t.name t.n o:=by
    rw [hz,withM,if_neg (fun h=>by simp [h.1] at k6)]
   subst hz'
   ((try refine W.a ?_);simp only [go_sem,seval,k6])
   refine W.no rfl ?_
   ((try refine W.a ?_);simp only [go_sem,seval])
   (refine W.fs (hok) (by simp only [r84,go_sem,seval];rfl) ?_;simp only [resV];try exact V.wk.rfl _)
   all_goals (all_goals exact wk_here)
  ·have h6:t.k = 6:=by simpa using k6
   by_cases c1:1 < o.length
   ·obtain ⟨o0,o1,rfl⟩:∃ a l,o = a :: l:=by
     cases o with
     | nil=>simp at c1
     | cons a l=>exact ⟨a,l,rfl⟩
    have hl0:0 < t.l.length:=by omega
    have hx:t.l[0]? = some t.l[0]:=List.getElem?_eq_getElem hl0
    have hhd:(t.l.headD .none) = t.l[0]:=by
     rw [List.headD_eq_head?_getD,List.head?_eq_getElem?,hx];rfl
    have q1:((o1.length + 1:Nat):Int) > 1:=by simp at c1;omega
    have h00:(0:Int) < ((o1.length + 1:Nat):Int):=by omega
    have hl00:(0:Int) < (t.l.length:Int):=by omega
    by_cases c2:o0.k = 6
    ·have p2:(o0.k == 6) = true:=by simp [c2]
     by_cases c3:t.l[0].k = 6
     ·have p3:(t.l[0].k == 6) = true:=by simp [c3]
      have hz':z = .mk t.k t.name t.n (o0 :: o1):=by
       rw [hz,withM,if_neg (fun h=>h.2.2.2 (by rw [hhd];exact c3))]
      subst hz'
      clear c3 c2 h6 hhd hz
      ((try refine W.a ?_);simp only [go_sem,seval,k6,q1,p2,p3,hx,nat0,bne,h00,hl00])
      refine W.no rfl ?_
      ((try refine W.a ?_);simp only [go_sem,seval])
      (refine W.fs (hok) (by simp only [r84,go_sem,seval];rfl) ?_;simp only [resV];try exact V.wk.rfl _)
      all_goals (all_goals exact wk_here)
     ·have p3:(t.l[0].k == 6) = false:=by simp [c3]
      have hz':z = applyM o0 o1:=by
       rw [hz,withM,if_pos ⟨h6,c1,c2,by rw [hhd];exact c3⟩];rfl
      have hb:=hbig o0 (List.mem_cons_self ..)
      have hA:=fun σ=>term_Apply w0 o0 o1 (by simp at hol;omega) σ
      rw [← hz'] at hA
      clear c3 c2 h6 hhd hz hz'
      have hrw:(∀ (x:List C),x ∈ List.map Typ.cs o1 → x.length = 4) ↔ True:=by
       simp only [List.mem_map,iff_true]
       rintro x ⟨u,_,rfl⟩
       rw [Typ.cs_eq];rfl
      have hge:(1:Int) ≤ ((o1.length + 1:Nat):Int):=by omega
      have htk2:List.take o1.length (List.map Typ.cs o1) = List.map Typ.cs o1:=List.take_of_length_le (by simp)
      ((try refine W.a ?_);simp only [go_sem,seval,k6,q1,p2,p3,hx,nat0,bne,h00,hl00])
      refine W.yes rfl ?_
      ((try refine W.a ?_);simp only [go_sem,seval])
      apply W.dregE (List.cons_ne_nil _ _)
      case hc=>
       (apply CanonE.advPO;simp only [go_sem,seval,nat0,h00,hrw,hge,htk2])
       (apply CanonE.call (hA _);(case hg=>rfl);(case hf=>rfl);(case ha=>first | rfl | simp))
       (apply CanonE.advPO;simp only [go_sem,seval])
       exact CanonE.nil
      ((try refine W.a ?_);simp only [go_sem,seval])
      (refine W.fs (hok) (by simp only [r84,go_sem,seval];rfl) ?_;simp only [resV];try exact V.wk.rfl _)
      all_goals (all_goals exact wk_here)
    ·have p2:(o0.k == 6) = false:=by simp [c2]
     have hz':z = .mk t.k t.name t.n (o0 :: o1):=by
      rw [hz,withM,if_neg (fun h=>c2 h.2.2.1)]
     subst hz'
     clear c2 h6 hhd hz
     ((try refine W.a ?_);simp only [go_sem,seval,k6,q1,p2,nat0,bne,h00,hl00])
     refine W.no rfl ?_
     ((try refine W.a ?_);simp only [go_sem,seval])
     (refine W.fs (hok) (by simp only [r84,go_sem,seval];rfl) ?_;simp only [resV];try exact V.wk.rfl _)
     all_goals (all_goals exact wk_here)
   ·have q1:¬ ((o.length:Nat):Int) > 1:=by omega
    have hz':z = .mk t.k t.name t.n o:=by
     rw [hz,withM,if_neg (fun h=>c1 h.2.1)]
    subst hz'
    clear h6 hz
    ((try refine W.a ?_);simp only [go_sem,seval,k6,q1,bne])
    refine W.no rfl ?_
    ((try refine W.a ?_);simp only [go_sem,seval])
    (refine W.fs (hok) (by simp only [r84,go_sem,seval];rfl) ?_;simp only [resV];try exact V.wk.rfl _)
    all_goals (all_goals exact wk_here)
 exact hst
end
section
attribute [local go_sem] Typ.v Typ.cs_eq tk_mk tname_mk tn_mk tl_mk tysC
theorem term_moved (w0:World) (t:Typ) (b:Int) (h1:-9223372036854775808 ≤ t.n + b) (h2:t.n + b ≤ 9223372036854775807) (σ:H):DC Tryz.prog w0 173 [t.v,I b] σ (Same (Typ.mk t.k t.name (t.n + b) t.l).v σ):=by
 refine k173.go rfl (fun hok hsz=>?_)
 have hw:IntKind.i64.wrap (t.n + b) = t.n + b:=by rw [wrap_in] <;> omega
 ((try refine W.a ?_);simp only [go_sem,seval,c173,hw])
 (refine W.fs (hok) (by simp only [r173,go_sem,seval];rfl) ?_;simp only [resV];try exact V.wk.rfl _)
 all_goals (all_goals exact wk_here)
theorem shift_leaf (w0:World) (a b:Int) (ha:0 ≤ a) (ha':a ≤ 30000000000) (hb:-1152921504606846976 ≤ b) (hb':b ≤ 1152921504606846976) (p:Nat) (σ:H) (e1:σ[p]? = some (.cells [I a])) (e2:σ[p + 1]? = some (.cells [I b])) (u:Typ) (j:Nat) (hj:j ≤ 30000000000) (hu:u.k = 3 → -2305843009213693952 ≤ u.n ∧ u.n ≤ 2305843009213693952) :
  DC Tryz.prog w0 172 [u.v,I (j:Int),.ptr p 0,.ptr (p + 1) 0] σ (Same (shiftF a b u (j:Int)).v σ):=by
 refine k172.go rfl (fun hok hsz=>?_)
 have e1:∀ L,(σ ++ L)[p]? = some (.cells [I a]):=fun L=>by rw [List.getElem?_append_left (List.getElem?_eq_some_iff.1 e1).1];exact e1
 have e2:∀ L,(σ ++ L)[p + 1]? = some (.cells [I b]):=fun L=>by rw [List.getElem?_append_left (List.getElem?_eq_some_iff.1 e2).1];exact e2
 have hw:IntKind.i64.wrap ((j:Int) + a) = (j:Int) + a:=by rw [wrap_in] <;> omega
 by_cases h3:u.k = 3
 ·have k3:(u.k == 3) = true:=by simp [h3]
  have hu:=hu h3
  by_cases hge:u.n ≥ (j:Int) + a
  ·have hE:shiftF a b u (j:Int) = .mk u.k u.name (u.n + b) u.l:=by unfold shiftF;rw [if_pos ⟨h3,hge⟩]
   have hM:=fun σ=>term_moved w0 u b (by omega) (by omega) σ
   rw [hE]
   clear h3 hE
   ((try refine W.a ?_);simp only [go_sem,seval,c172,k3,e1,e2,hw,hge])
   refine W.yes rfl ?_
   ((try refine W.a ?_);simp only [go_sem,seval,e1,e2])
   (refine W.c1 (hM _) ?_;simp only [go_sem,seval])
   ((try refine W.a ?_);simp only [go_sem,seval])
   (refine W.fs (hok) (by simp only [r172,go_sem,seval];rfl) ?_;simp only [resV];try exact V.wk.rfl _)
   all_goals (all_goals exact wk_here)
  ·have hE:shiftF a b u (j:Int) = u:=by unfold shiftF;rw [if_neg (fun h=>hge h.2)]
   rw [hE]
   clear h3 hE
   ((try refine W.a ?_);simp only [go_sem,seval,c172,k3,e1,e2,hw,hge])
   refine W.no rfl ?_
   ((try refine W.a ?_);simp only [go_sem,seval])
   (refine W.fs (hok) (by simp only [r172,go_sem,seval];rfl) ?_;simp only [resV];try exact V.wk.rfl _)
   all_goals (all_goals exact wk_here)
 ·have hE:shiftF a b u (j:Int) = u:=by unfold shiftF;rw [if_neg (fun h=>h3 h.1)]
  have k3:(u.k == 3) = false:=by simp [h3]
  rw [hE]
  clear h3 hE
  ((try refine W.a ?_);simp only [go_sem,seval,c172,k3])
  refine W.no rfl ?_
  ((try refine W.a ?_);simp only [go_sem,seval])
  (refine W.fs (hok) (by simp only [r172,go_sem,seval];rfl) ?_;simp only [resV];try exact V.wk.rfl _)
  all_goals (all_goals exact wk_here)
theorem shift_R (w0:World) (a b:Int) (ha:0 ≤ a) (ha':a ≤ 30000000000) (hb:-1152921504606846976 ≤ b) (hb':b ≤ 1152921504606846976) (p:Nat) :
  LeafR w0 (fun σ=>σ[p]? = some (.cells [I a]) ∧ σ[p + 1]? = some (.cells [I b])) (fun u=>nearM 2305843009213693952 u = true ∧ nodesM u ≤ 12000000000) (shiftF a b) 172 [.ptr p 0,.ptr (p + 1) 0] where
 more:=fun σ L ⟨e1,e2⟩=>⟨by rw [List.getElem?_append_left (List.getElem?_eq_some_iff.1 e1).1];exact e1,by rw [List.getElem?_append_left (List.getElem?_eq_some_iff.1 e2).1];exact e2⟩
 low:=fun σ ⟨e1,e2⟩ x hx=>by
  have h1:=(List.getElem?_eq_some_iff.1 e1).1
  have h2:=(List.getElem?_eq_some_iff.1 e2).1
  simp only [List.mem_cons,List.not_mem_nil,or_false] at hx
  rcases hx with rfl | rfl
  ·exact .ptr h1
  ·exact .ptr h2
 kid:=fun u ⟨h1,h2⟩ v hv=>⟨near_kids h1 v hv,by have:=nodesM_mem hv;omega⟩
 len:=fun u ⟨_,h2⟩=>Nat.le_trans (kids_nodes u) h2
 big:=fun u ⟨_,h2⟩ j=>by
  have h1:=nodesM_walk (g:=shiftF a b) (C:=1) (Nat.le_refl _) (fun v i _ _=>by
   unfold shiftF
   split
   ·rw [nodesM_mk,nodesM_eq v];omega
   ·omega) u j
  have:=kids_nodes (walkM (shiftF a b) (j:Int) u)
  omega
 leaf:=fun σ ⟨e1,e2⟩ u j ⟨h1,_⟩ hj _ _=>shift_leaf w0 a b ha ha' hb hb' p σ e1 e2 u j hj (fun h3=>near_node h1 (by omega))
theorem term_Shift (w0:World) (t:Typ) (a b:Int) (ha:0 ≤ a) (ha':a ≤ 30000000000) (hb:-1152921504606846976 ≤ b) (hb':b ≤ 1152921504606846976) (hnr:nearM 2305843009213693952 t = true) (hn:nodesM t ≤ 12000000000) (σ:H):DC Tryz.prog w0 83 [t.v,I a,I b] σ (Same (shiftM a b t).v σ):=by
 refine k83.go rfl (fun hok hsz=>?_)
 have hw:=walk_term (shift_R w0 a b ha ha' hb hb' (σ.length + 1)) t ⟨hnr,hn⟩ 0 (by omega) (σ ++ [.cells t.v.cellsV,.cells [I a],.cells [I b],.cells [I 0,S [],I 0,.csl []]]) ⟨by simp,by rw [Nat.add_assoc];simp⟩
 have hz:shiftM a b t = walkM (shiftF a b) ((0:Nat):Int) t:=rfl
 rw [hz]
 generalize walkM (shiftF a b) ((0:Nat):Int) t = z at *
 ((try refine W.a ?_);simp only [go_sem,seval,c83])
 (refine W.c1 (hw) ?_;simp only [go_sem,seval])
 ((try refine W.a ?_);simp only [go_sem,seval])
 (refine W.fs (hok) (by simp only [r83,go_sem,seval];rfl) ?_;simp only [resV];try exact V.wk.rfl _)
 all_goals (all_goals exact wk_here)
theorem subst_leaf (w0:World) (i:Int) (s:Typ) (hi:0 ≤ i) (hi':i ≤ 30000000000) (hsn:nearM 2305843009213693952 s = true) (hss:nodesM s ≤ 12000000000) (p:Nat) (σ:H) (e1:σ[p]? = some (.cells [I i])) (e2:σ[p + 1]? = some (.cells s.v.cellsV)) (u:Typ) (j:Nat) (hj:j ≤ 30000000000) (hu:u.k = 3 → -2305843009213693952 ≤ u.n ∧ u.n ≤ 2305843009213693952) :
  DC Tryz.prog w0 227 [u.v,I (j:Int),.ptr p 0,.ptr (p + 1) 0] σ (Same (substF i s u (j:Int)).v σ):=by
 refine k227.go rfl (fun hok hsz=>?_)
 have e1:∀ L,(σ ++ L)[p]? = some (.cells [I i]):=fun L=>by rw [List.getElem?_append_left (List.getElem?_eq_some_iff.1 e1).1];exact e1
 have e2:∀ L,(σ ++ L)[p + 1]? = some (.cells [I s.k,S s.name,I s.n,.c (.sl (s.l.map Typ.cs))]):=fun L=>by rw [List.getElem?_append_left (List.getElem?_eq_some_iff.1 e2).1];exact e2
 have hw:IntKind.i64.wrap ((j:Int) + i) = (j:Int) + i:=by rw [wrap_in] <;> omega
 by_cases h3:u.k = 3
 ·have k3:(u.k == 3) = true:=by simp [h3]
  have hu:=hu h3
  by_cases hlt:u.n < (j:Int) + i
  ·have hE:substF i s u (j:Int) = u:=by unfold substF;rw [if_pos (.inr hlt)]
   rw [hE]
   clear h3 hE
   ((try refine W.a ?_);simp only [go_sem,seval,c227,k3,bne,e1,e2,hw,hlt])
   refine W.yes rfl ?_
   ((try refine W.a ?_);simp only [go_sem,seval])
   (refine W.fs (hok) (by simp only [r227,go_sem,seval];rfl) ?_;simp only [resV];try exact V.wk.rfl _)
   all_goals (all_goals exact wk_here)
  ·by_cases heq:u.n = (j:Int) + i
   ·have hE:substF i s u (j:Int) = shiftM 0 (j:Int) s:=by unfold substF;rw [if_neg (by omega),if_pos heq]
    have hS:=fun σ=>term_Shift w0 s 0 (j:Int) (by decide) (by decide) (by omega) (by omega) hsn hss σ
    have q:(u.n == (j:Int) + i) = true:=by simp [heq]
    rw [hE]
    generalize shiftM 0 (j:Int) s = z at *
    clear h3 hE heq
    ((try refine W.a ?_);simp only [go_sem,seval,c227,k3,bne,e1,e2,hw,hlt])
    refine W.no rfl ?_
    ((try refine W.a ?_);simp only [go_sem,seval,e1,e2,hw,q])
    refine W.yes rfl ?_
    ((try refine W.a ?_);simp only [go_sem,seval,e1,e2])
    (refine W.c1 (hS _) ?_;simp only [go_sem,seval])
    ((try refine W.a ?_);simp only [go_sem,seval])
    (refine W.fs (hok) (by simp only [r227,go_sem,seval];rfl) ?_;simp only [resV];try exact V.wk.rfl _)
    all_goals (all_goals exact wk_here)
   ·have hE:substF i s u (j:Int) = .mk u.k u.name (u.n + -1) u.l:=by unfold substF;rw [if_neg (by omega),if_neg heq];rfl
    have hM:=fun σ=>term_moved w0 u (-1) (by omega) (by omega) σ
    have q:(u.n == (j:Int) + i) = false:=by simp [heq]
    rw [hE]
    clear h3 hE heq
    ((try refine W.a ?_);simp only [go_sem,seval,c227,k3,bne,e1,e2,hw,hlt])
    refine W.no rfl ?_
    ((try refine W.a ?_);simp only [go_sem,seval,e1,e2,hw,q])
    refine W.no rfl ?_
    ((try refine W.a ?_);simp only [go_sem,seval,e1,e2])
    (refine W.c1 (hM _) ?_;simp only [go_sem,seval])
    ((try refine W.a ?_);simp only [go_sem,seval])
    (refine W.fs (hok) (by simp only [r227,go_sem,seval];rfl) ?_;simp only [resV];try exact V.wk.rfl _)
    all_goals (all_goals exact wk_here)
 ·have hE:substF i s u (j:Int) = u:=by unfold substF;rw [if_pos (.inl h3)]
  have k3:(u.k == 3) = false:=by simp [h3]
  rw [hE]
  clear h3 hE
  ((try refine W.a ?_);simp only [go_sem,seval,c227,k3,bne])
  refine W.yes rfl ?_
  ((try refine W.a ?_);simp only [go_sem,seval])
  (refine W.fs (hok) (by simp only [r227,go_sem,seval];rfl) ?_;simp only [resV];try exact V.wk.rfl _)
  all_goals (all_goals exact wk_here)
theorem subst_R (w0:World) (i:Int) (s:Typ) (hi:0 ≤ i) (hi':i ≤ 30000000000) (hsn:nearM 2305843009213693952 s = true) (hss:nodesM s ≤ 12000000000) (p:Nat) :
  LeafR w0 (fun σ=>σ[p]? = some (.cells [I i]) ∧ σ[p + 1]? = some (.cells s.v.cellsV)) (fun u=>nearM 2305843009213693952 u = true ∧ nodesM u ≤ 12000000000 ∧ nodesM s * nodesM u ≤ 12000000000) (substF i s) 227 [.ptr p 0,.ptr (p + 1) 0] where
 more:=fun σ L ⟨e1,e2⟩=>⟨by rw [List.getElem?_append_left (List.getElem?_eq_some_iff.1 e1).1];exact e1,by rw [List.getElem?_append_left (List.getElem?_eq_some_iff.1 e2).1];exact e2⟩
 low:=fun σ ⟨e1,e2⟩ x hx=>by
  have h1:=(List.getElem?_eq_some_iff.1 e1).1
  have h2:=(List.getElem?_eq_some_iff.1 e2).1
  simp only [List.mem_cons,List.not_mem_nil,or_false] at hx
  rcases hx with rfl | rfl
  ·exact .ptr h1
  ·exact .ptr h2
 kid:=fun u ⟨h1,h2,h3⟩ v hv=>⟨near_kids h1 v hv,by have:=nodesM_mem hv;omega,Nat.le_trans (Nat.mul_le_mul_left _ (Nat.le_of_lt (nodesM_mem hv))) h3⟩
 len:=fun u ⟨_,h2,_⟩=>Nat.le_trans (kids_nodes u) h2
 big:=fun u ⟨_,_,h3⟩ j=>Nat.le_trans (kids_nodes _) (Nat.le_trans (subst_nodes i s u j) h3)
 leaf:=fun σ ⟨e1,e2⟩ u j ⟨h1,_⟩ hj _ _=>subst_leaf w0 i s hi hi' hsn hss p σ e1 e2 u j hj (fun h3=>near_node h1 (by omega))
theorem term_Subst (w0:World) (t:Typ) (i:Int) (s:Typ) (hi:0 ≤ i) (hi':i ≤ 30000000000) (hsn:nearM 2305843009213693952 s = true) (hss:nodesM s ≤ 12000000000) (hnr:nearM 2305843009213693952 t = true) (hn:nodesM t ≤ 12000000000) (hm:nodesM s * nodesM t ≤ 12000000000) (σ:H):DC Tryz.prog w0 138 [t.v,I i,s.v] σ (Same (substM i s t).v σ):=by
 refine k138.go rfl (fun hok hsz=>?_)
 have hw:=walk_term (subst_R w0 i s hi hi' hsn hss (σ.length + 1)) t ⟨hnr,hn,hm⟩ 0 (by omega) (σ ++ [.cells t.v.cellsV,.cells [I i],.cells s.v.cellsV,.cells [I 0,S [],I 0,.csl []]]) ⟨by simp,by rw [Nat.add_assoc];simp⟩
 have hz:substM i s t = walkM (substF i s) ((0:Nat):Int) t:=rfl
 rw [hz]
 generalize walkM (substF i s) ((0:Nat):Int) t = z at *
 ((try refine W.a ?_);simp only [go_sem,seval,c138])
 (refine W.c1 (hw) ?_;simp only [go_sem,seval])
 ((try refine W.a ?_);simp only [go_sem,seval])
 (refine W.fs (hok) (by simp only [r138,go_sem,seval];rfl) ?_;simp only [resV];try exact V.wk.rfl _)
 all_goals (all_goals exact wk_here)
end
end Go.Proofs.YtpcmcfajfnpjeaaGreatDoor
namespace Go.Proofs.YtpcmcfajfnpjeaaGreatDoor
open Go Go.RowKit Go.Lamb

structure Cla where
 vars:Int
 head:Typ
 body:Typ
 deriving Inhabited
def Cla.cs (c:Cla):List C:=[.int .i64 c.vars,.int .i64 c.head.k,.str c.head.name,.int .i64 c.head.n,.sl (c.head.l.map Typ.cs),.int .i64 c.body.k,.str c.body.name,.int .i64 c.body.n,.sl (c.body.l.map Typ.cs)]
def Cla.v (c:Cla):V:=.agg [I c.vars,I c.head.k,S c.head.name,I c.head.n,.c (.sl (c.head.l.map Typ.cs)),I c.body.k,S c.body.name,I c.body.n,.c (.sl (c.body.l.map Typ.cs))]
/-! ### how many constants -/
/-! ### head and arguments; below an abstraction -/
def splitM (t:Typ):Typ × List Typ:=if t.k = 6 then (t.l.headD .none,t.l.tail) else (t,[])
/-! ### heads' arguments -/
/-! ### goals that came, as one -/
/-! ### goals and clauses -/
def hd (t:Typ):Typ:=(splitM t).1
end Go.Proofs.YtpcmcfajfnpjeaaGreatDoor

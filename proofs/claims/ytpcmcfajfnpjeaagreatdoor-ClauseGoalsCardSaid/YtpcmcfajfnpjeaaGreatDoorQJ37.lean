/- . -/
import Derived.Test.YtpcmcfajfnpjeaaGreatDoorQJ36
import Derived.Test.YtpcmcfajfnpjeaaGreatDoorChecked
import Derived.Test.YtpcmcfajfnpjeaaGreatDoorQJ15
import Derived.Lib.ItoaLen
import Derived.Test.YtpcmcfajfnpjeaaGreatDoorQLexBk
import Derived.Test.YtpcmcfajfnpjeaaGreatDoorQJ11
set_option linter.unusedSimpArgs false
set_option linter.unusedVariables false
set_option maxHeartbeats 8000000
set_option maxRecDepth 20000
namespace Go.Lamb
open Go Go.RowKit
end Go.Lamb
namespace Go.Proofs.YtpcmcfajfnpjeaaGreatDoor
open Go.RowKit Go.Lamb
attribute [local go_sem] advO_skip advO_reg advO_seq advO_block advO_exit advO_endb advO_opsNil advO_ops advG_yes advG_no advG_none advS_some advS_none advO_cond advO_loop advO_dreg advO_ret advO_bad advO_inv advO_nil advO_zero wantedV Lamb.step ev_t ev_k put_some put_none argEnv popTo cellsAt V.cellsV V.rows V.sub V.toC toCs fillV bytesC byteRows appV rowsV boundV boundL binV binInt binStr eqC eqL V.isNil leaves V.leaf Ins.quiet Ins.pure List.getD_cons_zero List.getD_cons_succ List.getD_nil List.all_cons List.all_nil List.length_cons List.length_nil List.take_succ_cons List.take_zero List.drop_succ_cons List.drop_zero List.cons_append List.nil_append List.append_nil List.append_assoc List.map_cons List.map_nil List.getElem?_cons_zero List.getElem?_cons_succ List.length_append List.length_set hget0 hget hset0 hset hsets hgs0 hgs hss0 hss List.set_cons_zero List.set_cons_succ List.forall_mem_cons List.not_mem_nil false_implies implies_true Option.map_some Bool.and_true Bool.true_and Bool.not_not Bool.not_true Bool.not_false Bool.and_self Bool.or_true Bool.true_or Bool.or_false Bool.false_or Bool.and_false Bool.false_and Bool.false_eq_true beq_self_eq_true and_self and_true true_and if_true if_false Nat.zero_add Nat.add_zero Nat.le_refl Int.toNat_natCast decide_true decide_false beq_t beq_f List.length_map List.getElem?_map I S B opsC toksC OpT.v OpT.cs OpT.zero Tok.v Tok.cs Pre.v Pre.cs_eq k_mk name_mk n_mk l_mk pos_mk Pre.app applyL natCast0 natCast1 natCast2 AOp.o AOp.m AOp.f AOp.l AOp.d AOp.n AOp.x AOp.s AOp.k AOp.y AOp.z EOp.q low_c low_void low_any low_csl low_nilf low_ptr low_osl low_agg low_tup low_fn resEval advPO_nil advPO_loud advPO_quiet pL_yes pL_no pLS_some pLS_none pQ_yes pQ_no pQS_some pQS_loud eq_self Nat.sub_zero zK zT zF zS4
section
attribute [local go_sem] Typ.v Typ.cs_eq tk_mk tname_mk tn_mk tl_mk tysC

theorem ref07_Near (w0:World) (m:Int) (hm:0 ≤ m) (hm':m ≤ 4611686018427387904) (p:Typ):∀ (σ:H),DC Tryz.prog w0 53 [p.v,I m] σ (Same (B (nearM m p)) σ):=by
 refine Typ.ind (P:=fun p=>∀ (σ:H),DC Tryz.prog w0 53 [p.v,I m] σ (Same (B (nearM m p)) σ)) (fun p ih σ=>?_) p
 refine k53.go rfl (fun hok hsz=>?_)
 have hlen:=typ_len hsz (List.mem_cons_self ..)
 have hw0:IntKind.i64.wrap (0 - m) = -m:=by rw [wrap_in] <;> omega
 have hE:=nearM_eq m p
 ((refine W.a ?_;(try simp only [bne,go_sem,seval,c53,hw0, *]));(repeat' (first | (refine W.yes rfl ?_;(refine W.a ?_;simp only [bne,go_sem,seval,c53,hw0, *])) | (refine W.no rfl ?_;(refine W.a ?_;simp only [bne,go_sem,seval,c53,hw0, *])) | (refine W.testn rfl (fun hT=>?_) (fun hT=>?_) <;> (refine W.a ?_;simp only [bne,go_sem,seval,c53,hw0, *])) | (refine W.test rfl (fun hT=>?_) (fun hT=>?_) <;> (refine W.a ?_;simp only [bne,go_sem,seval,c53,hw0, *])) | (refine advG_ifn _ _ _ _ (fun hT=>?_) (fun hT=>?_) <;> simp only [bne,go_sem,seval,c53,hw0, *]) | (refine advG_if _ _ _ _ (fun hT=>?_) (fun hT=>?_) <;> simp only [bne,go_sem,seval,c53,hw0, *]))))
 all_goals (try (refine W.fs (hok) (by simp only [r53,go_sem,seval];rfl) ?_;simp only [resV];(first | exact V.wk.rfl _ | (refine wk_bool ?_;clear hsz hok;rw [nearM_eq] <;> ((try simp only [beq_iff_eq,beq_eq_false_iff_ne,ne_eq,decide_eq_true_eq,decide_eq_false_iff_not] at *);first | (exfalso;omega) | (simp [*];done) | (simp [*];omega) | (simp [*]))))))
 all_goals
  refine W.loopP (fun i=>i ≤ p.l.length ∧ ∀ j (hj:j < p.l.length),j < i → nearM m p.l[j] = true) (fun i=>⟨(((base.put (some 1) (I m)).put (some 2) (.ptr σ.length 0)).put (some 5) (I (i:Nat))),σ ++ [.cells p.v.cellsV]⟩) (fun i=>p.l.length - i) 0 ⟨Nat.zero_le _,fun _ _ h=>absurd h (by omega)⟩ ?_ (fun i hi=>?_)
  ·(refine Lew.env ?_;exact lee_here)
  ·obtain ⟨hi,hinv⟩:=hi
   by_cases hlt:i < p.l.length
   ·have h1:((i:Int) < (p.l.length:Int)):=by omega
    have hx:p.l[i]? = some p.l[i]:=List.getElem?_eq_getElem hlt
    have hw:IntKind.i64.wrap ((i:Int) + 1) = ((i + 1:Nat):Int):=wrap_next hlt hlen
    (refine W.a ?_;simp only [go_sem,seval,h1])
    refine W.yes rfl (W.a ?_);simp only [go_sem,seval,h1,nat0,hx]
    (refine W.c1 (ih p.l[i] (List.getElem_mem hlt) _) ?_;simp only [go_sem,seval])
    refine W.testn rfl (fun h=>?_) (fun h=>?_)
    ·(refine W.a ?_;simp only [go_sem,seval,hw])
     refine .inv ⟨i + 1,⟨hlt,fun j hj hji=>?_⟩,by omega,?_⟩
     ·rcases Nat.lt_succ_iff_lt_or_eq.1 hji with h' | h'
      ·exact hinv j hj h'
      ·subst h';exact h
     ·(refine Lew.env ?_;exact lee_here)
    ·(refine W.a ?_;simp only [go_sem,seval])
     (refine W.fs (hok) (by simp only [r53,go_sem,seval];rfl) ?_;simp only [resV];try exact V.wk.rfl _)
     rw [allNo (p:=nearM m) hlt h];exact .rfl _
   ·have h1:¬ ((i:Int) < (p.l.length:Int)):=by omega
    (refine W.a ?_;simp only [go_sem,seval,h1])
    refine W.no rfl (W.a ?_);simp only [go_sem,seval]
    (refine W.fs (hok) (by simp only [r53,go_sem,seval];rfl) ?_;simp only [resV];try exact V.wk.rfl _)
    rw [allUpto (p:=nearM m) hinv (by omega)]
    exact .rfl _
theorem term_Valid (w0:World) (p:Typ):∀ (σ:H),DC Tryz.prog w0 23 [p.v] σ (Same (B (validM p)) σ):=by
 refine Typ.ind (P:=fun p=>∀ (σ:H),DC Tryz.prog w0 23 [p.v] σ (Same (B (validM p)) σ)) (fun p ih σ=>?_) p
 refine k23.go rfl (fun hok hsz=>?_)
 have hC:=fun σ=>ContainsFunc_term w0 p.l 78 [] (fun q=>!validM q) σ (fun q hq=>term_Valid1 w0 q _ _ (fun τ=>ih q hq τ))
 have l0:=len_ne (n:=p.l.length) 0
 have l1:=len_ne (n:=p.l.length) 1
 simp only [natCast0,natCast1] at l0 l1
 by_cases h6:p.k = 6
 ·have h6':(p.k == 6) = true:=by simpa using h6
  by_cases h2:2 ≤ p.l.length
  ·have h2':((p.l.length:Int) ≥ 2):=by omega
   have h3:((0:Nat):Int) < (p.l.length:Int):=by omega
   have h3':(0:Int) < (p.l.length:Int):=by omega
   have hx:p.l[0]? = some p.l[0]:=List.getElem?_eq_getElem (by omega)
   have hh:p.l.head?.getD .none = p.l[0]:=by rw [← headM_at (by omega)];simp
   cases hn:(p.n == 0) <;> cases hk:(p.l[0].k != 6)
   all_goals
    ((refine W.a ?_;(try simp only [bne,go_sem,seval,c23,l0,l1,h6',h2',h3,h3',hx,nat0,hn,hk, *]));(repeat' (first | (refine W.yes rfl ?_;(refine W.a ?_;simp only [bne,go_sem,seval,c23,l0,l1,h6',h2',h3,h3',hx,nat0,hn,hk, *])) | (refine W.no rfl ?_;(refine W.a ?_;simp only [bne,go_sem,seval,c23,l0,l1,h6',h2',h3,h3',hx,nat0,hn,hk, *])) | (refine W.c1 (hC _) ?_;simp only [bne,go_sem,seval,c23,l0,l1,h6',h2',h3,h3',hx,nat0,hn,hk, *]) | (refine W.testn rfl (fun hT=>?_) (fun hT=>?_) <;> (refine W.a ?_;simp only [bne,go_sem,seval,c23,l0,l1,h6',h2',h3,h3',hx,nat0,hn,hk, *])) | (refine W.test rfl (fun hT=>?_) (fun hT=>?_) <;> (refine W.a ?_;simp only [bne,go_sem,seval,c23,l0,l1,h6',h2',h3,h3',hx,nat0,hn,hk, *])) | (refine advG_ifn _ _ _ _ (fun hT=>?_) (fun hT=>?_) <;> simp only [bne,go_sem,seval,c23,l0,l1,h6',h2',h3,h3',hx,nat0,hn,hk, *]) | (refine advG_if _ _ _ _ (fun hT=>?_) (fun hT=>?_) <;> simp only [bne,go_sem,seval,c23,l0,l1,h6',h2',h3,h3',hx,nat0,hn,hk, *]))))
    apply W.dreg
    case hc=>
     (apply Canon.advCO;simp only [advCO_nil,advCO_cons,cG_yes,cG_no,cS_some,cS_loud,go_sem,seval,l0,l1,h6',h2',h3,h3',hx,nat0,hn,hk])
     exact Canon.nil
    ((refine W.a ?_;(try simp only [bne,go_sem,seval,l0,l1,h6',h2',h3,h3',hx,nat0,hn,hk, *]));(repeat' (first | (refine W.yes rfl ?_;(refine W.a ?_;simp only [bne,go_sem,seval,l0,l1,h6',h2',h3,h3',hx,nat0,hn,hk, *])) | (refine W.no rfl ?_;(refine W.a ?_;simp only [bne,go_sem,seval,l0,l1,h6',h2',h3,h3',hx,nat0,hn,hk, *])) | (refine W.c1 (hC _) ?_;simp only [bne,go_sem,seval,l0,l1,h6',h2',h3,h3',hx,nat0,hn,hk, *]) | (refine W.testn rfl (fun hT=>?_) (fun hT=>?_) <;> (refine W.a ?_;simp only [bne,go_sem,seval,l0,l1,h6',h2',h3,h3',hx,nat0,hn,hk, *])) | (refine W.test rfl (fun hT=>?_) (fun hT=>?_) <;> (refine W.a ?_;simp only [bne,go_sem,seval,l0,l1,h6',h2',h3,h3',hx,nat0,hn,hk, *])) | (refine advG_ifn _ _ _ _ (fun hT=>?_) (fun hT=>?_) <;> simp only [bne,go_sem,seval,l0,l1,h6',h2',h3,h3',hx,nat0,hn,hk, *]) | (refine advG_if _ _ _ _ (fun hT=>?_) (fun hT=>?_) <;> simp only [bne,go_sem,seval,l0,l1,h6',h2',h3,h3',hx,nat0,hn,hk, *]))))
    all_goals (try (refine W.fs (hok) (by simp only [r23,go_sem,seval];rfl) ?_;simp only [resV];(first | exact V.wk.rfl _ | (refine wk_bool ?_;clear hsz hok;rw [validM_eq] <;> ((try simp only [beq_iff_eq,beq_eq_false_iff_ne,ne_eq,decide_eq_true_eq,decide_eq_false_iff_not] at *);first | (exfalso;omega) | (simp [nodeM,any_all,hh, *];done) | (simp [nodeM,any_all,hh, *];omega) | (simp [nodeM,any_all,hh, *]))))))
  ·have h2':¬ ((p.l.length:Int) ≥ 2):=by omega
   have h2n:decide (2 ≤ p.l.length) = false:=by simpa using h2
   have hv:validM p = false:=by rw [validM_eq,nodeM];simp [h6,h2]
   cases hn:(p.n == 0)
   all_goals
    ((refine W.a ?_;(try simp only [bne,go_sem,seval,c23,l0,l1,h6',h2',hn, *]));(repeat' (first | (refine W.yes rfl ?_;(refine W.a ?_;simp only [bne,go_sem,seval,c23,l0,l1,h6',h2',hn, *])) | (refine W.no rfl ?_;(refine W.a ?_;simp only [bne,go_sem,seval,c23,l0,l1,h6',h2',hn, *])) | (refine W.c1 (hC _) ?_;simp only [bne,go_sem,seval,c23,l0,l1,h6',h2',hn, *]) | (refine W.testn rfl (fun hT=>?_) (fun hT=>?_) <;> (refine W.a ?_;simp only [bne,go_sem,seval,c23,l0,l1,h6',h2',hn, *])) | (refine W.test rfl (fun hT=>?_) (fun hT=>?_) <;> (refine W.a ?_;simp only [bne,go_sem,seval,c23,l0,l1,h6',h2',hn, *])) | (refine advG_ifn _ _ _ _ (fun hT=>?_) (fun hT=>?_) <;> simp only [bne,go_sem,seval,c23,l0,l1,h6',h2',hn, *]) | (refine advG_if _ _ _ _ (fun hT=>?_) (fun hT=>?_) <;> simp only [bne,go_sem,seval,c23,l0,l1,h6',h2',hn, *]))))
    apply W.dreg
    case hc=>
     (apply Canon.advCO;simp only [advCO_nil,advCO_cons,cG_yes,cG_no,cS_some,cS_loud,go_sem,seval,l0,l1,h6',h2',hn])
     exact Canon.nil
    ((refine W.a ?_;(try simp only [bne,go_sem,seval,l0,l1,h6',h2',hn, *]));(repeat' (first | (refine W.yes rfl ?_;(refine W.a ?_;simp only [bne,go_sem,seval,l0,l1,h6',h2',hn, *])) | (refine W.no rfl ?_;(refine W.a ?_;simp only [bne,go_sem,seval,l0,l1,h6',h2',hn, *])) | (refine W.c1 (hC _) ?_;simp only [bne,go_sem,seval,l0,l1,h6',h2',hn, *]) | (refine W.testn rfl (fun hT=>?_) (fun hT=>?_) <;> (refine W.a ?_;simp only [bne,go_sem,seval,l0,l1,h6',h2',hn, *])) | (refine W.test rfl (fun hT=>?_) (fun hT=>?_) <;> (refine W.a ?_;simp only [bne,go_sem,seval,l0,l1,h6',h2',hn, *])) | (refine advG_ifn _ _ _ _ (fun hT=>?_) (fun hT=>?_) <;> simp only [bne,go_sem,seval,l0,l1,h6',h2',hn, *]) | (refine advG_if _ _ _ _ (fun hT=>?_) (fun hT=>?_) <;> simp only [bne,go_sem,seval,l0,l1,h6',h2',hn, *]))))
    all_goals (try (refine W.fs (hok) (by simp only [r23,go_sem,seval];rfl) ?_;simp only [resV];(first | exact V.wk.rfl _ | (refine wk_bool ?_;clear hsz hok;rw [hv] <;> ((try simp only [beq_iff_eq,beq_eq_false_iff_ne,ne_eq,decide_eq_true_eq,decide_eq_false_iff_not] at *);first | (exfalso;omega) | (simp [*];done) | (simp [*];omega) | (simp [*]))))))
 ·have h6':(p.k == 6) = false:=by simpa using h6
  ((refine W.a ?_;(try simp only [bne,go_sem,seval,c23,l0,l1,h6', *]));(repeat' (first | (refine W.yes rfl ?_;(refine W.a ?_;simp only [bne,go_sem,seval,c23,l0,l1,h6', *])) | (refine W.no rfl ?_;(refine W.a ?_;simp only [bne,go_sem,seval,c23,l0,l1,h6', *])) | (refine W.c1 (lex_IsNameD w0 p.name _) ?_;simp only [bne,go_sem,seval,c23,l0,l1,h6', *]) | (refine W.c1 (lex_IsSymD w0 p.name _) ?_;simp only [bne,go_sem,seval,c23,l0,l1,h6', *]) | (refine W.c1 (hC _) ?_;simp only [bne,go_sem,seval,c23,l0,l1,h6', *]) | (refine W.testn rfl (fun hT=>?_) (fun hT=>?_) <;> (refine W.a ?_;simp only [bne,go_sem,seval,c23,l0,l1,h6', *])) | (refine W.test rfl (fun hT=>?_) (fun hT=>?_) <;> (refine W.a ?_;simp only [bne,go_sem,seval,c23,l0,l1,h6', *])) | (refine advG_ifn _ _ _ _ (fun hT=>?_) (fun hT=>?_) <;> simp only [bne,go_sem,seval,c23,l0,l1,h6', *]) | (refine advG_if _ _ _ _ (fun hT=>?_) (fun hT=>?_) <;> simp only [bne,go_sem,seval,c23,l0,l1,h6', *]))))
  all_goals (try (refine W.fs (hok) (by simp only [r23,go_sem,seval];rfl) ?_;simp only [resV];(first | exact V.wk.rfl _ | (refine wk_bool ?_;clear hsz hok;rw [validM_eq] <;> ((try simp only [beq_iff_eq,beq_eq_false_iff_ne,ne_eq,decide_eq_true_eq,decide_eq_false_iff_not] at *);first | (exfalso;omega) | (simp [nodeM,any_all, *];done) | (simp [nodeM,any_all, *];omega) | (simp [nodeM,any_all, *]))))))
  all_goals
   intro h x hx;rw [h] at hx;simp at hx
end
section
attribute [local go_sem] Typ.v Typ.cs_eq tk_mk tname_mk tn_mk tl_mk tysC

theorem validM_app (p:Typ) (h6:p.k = 6) (h2:2 ≤ p.l.length):validM p = (p.n == 0 && (p.l[0].k != 6) && p.name == [] && p.l.all validM):=by
 rw [validM_eq,nodeM,headM_at (by omega)]
 simp only [h6,Int.reduceEq,if_false,if_true,decide_eq_true h2,Bool.and_true]
theorem validM_few (p:Typ) (h6:p.k = 6) (h2:¬ 2 ≤ p.l.length):validM p = false:=by
 rw [validM_eq,nodeM];simp [h6,h2]
theorem ref07_Valid (w0:World) (p:Typ):∀ (σ:H),DC Tryz.prog w0 15 [p.v] σ (Same (B (validM p)) σ):=by
 refine Typ.ind (P:=fun p=>∀ (σ:H),DC Tryz.prog w0 15 [p.v] σ (Same (B (validM p)) σ)) (fun p ih σ=>?_) p
 refine k15.go rfl (fun hok hsz=>?_)
 have hlen:=typ_len hsz (List.mem_cons_self ..)
 have l0:=len_ne (n:=p.l.length) 0
 have l1:=len_ne (n:=p.l.length) 1
 simp only [natCast0,natCast1] at l0 l1
 by_cases h6:p.k = 6
 ·have h6':(p.k == 6) = true:=by simpa using h6
  have kn:∀ k:Int,k ≠ 6 → (p.k == k) = false:=fun k hk=>by rw [beq_eq_false_iff_ne];omega
  have k0:=kn 0 (by decide)
  have k1:=kn 1 (by decide)
  have k2:=kn 2 (by decide)
  have k3:=kn 3 (by decide)
  have k4:=kn 4 (by decide)
  have k5:=kn 5 (by decide)
  clear h6 kn
  by_cases h2:2 ≤ p.l.length
  ·have h2':((p.l.length:Int) ≥ 2):=by omega
   have h3:((0:Nat):Int) < (p.l.length:Int):=by omega
   have h3':(0:Int) < (p.l.length:Int):=by omega
   have hx:p.l[0]? = some p.l[0]:=List.getElem?_eq_getElem (by omega)
   cases hn:(p.n == 0) <;> cases hk:(p.l[0].k == 6)
   all_goals
    ((refine W.a ?_;(try simp only [bne,go_sem,seval,c15,l0,l1,h6',h2',h3,h3',hx,nat0,hn,hk, *]));(repeat' (first | (refine W.yes rfl ?_;(refine W.a ?_;simp only [bne,go_sem,seval,c15,l0,l1,h6',h2',h3,h3',hx,nat0,hn,hk, *])) | (refine W.no rfl ?_;(refine W.a ?_;simp only [bne,go_sem,seval,c15,l0,l1,h6',h2',h3,h3',hx,nat0,hn,hk, *])) | (refine W.testn rfl (fun hT=>?_) (fun hT=>?_) <;> (refine W.a ?_;simp only [bne,go_sem,seval,c15,l0,l1,h6',h2',h3,h3',hx,nat0,hn,hk, *])) | (refine W.test rfl (fun hT=>?_) (fun hT=>?_) <;> (refine W.a ?_;simp only [bne,go_sem,seval,c15,l0,l1,h6',h2',h3,h3',hx,nat0,hn,hk, *])) | (refine advG_ifn _ _ _ _ (fun hT=>?_) (fun hT=>?_) <;> simp only [bne,go_sem,seval,c15,l0,l1,h6',h2',h3,h3',hx,nat0,hn,hk, *]) | (refine advG_if _ _ _ _ (fun hT=>?_) (fun hT=>?_) <;> simp only [bne,go_sem,seval,c15,l0,l1,h6',h2',h3,h3',hx,nat0,hn,hk, *]))))
    all_goals (try (first
     | (refine W.loopP (α:=Nat × Bool) (fun x=>x.1 ≤ p.l.length ∧ (x.2 && (p.l.drop x.1).all validM) = validM p) (fun x=>⟨(((base.put (some 1) (.ptr σ.length 0)).put (some 3) (B x.2)).put (some 7) (I (x.1:Nat))),σ ++ [.cells p.v.cellsV]⟩) (fun x=>p.l.length - x.1) (0,true) ⟨Nat.zero_le _,?_⟩ ?_ (fun x hi=>?_)
        focus (simp only [validM_app p (by simpa using h6') h2,bne,Bool.not_true,Bool.not_false,hn,hk,List.drop_zero,Bool.false_and,Bool.true_and,Bool.and_false,Bool.and_true, *])
        focus ((refine Lew.env ?_;exact lee_here)))
     | (refine W.loopP (α:=Nat × Bool) (fun x=>x.1 ≤ p.l.length ∧ (x.2 && (p.l.drop x.1).all validM) = validM p) (fun x=>⟨(((base.put (some 1) (.ptr σ.length 0)).put (some 3) (B x.2)).put (some 7) (I (x.1:Nat))),σ ++ [.cells p.v.cellsV]⟩) (fun x=>p.l.length - x.1) (0,false) ⟨Nat.zero_le _,?_⟩ ?_ (fun x hi=>?_)
        focus (simp only [validM_app p (by simpa using h6') h2,bne,Bool.not_true,Bool.not_false,hn,hk,List.drop_zero,Bool.false_and,Bool.true_and,Bool.and_false,Bool.and_true, *])
        focus ((refine Lew.env ?_;exact lee_here)))))
    all_goals (try (
     obtain ⟨i,b⟩:=x;obtain ⟨hi,hinv⟩:=hi;simp only at hi hinv
     by_cases hlt:i < p.l.length
     ·have h1:((i:Int) < (p.l.length:Int)):=by omega
      have hx:p.l[i]? = some p.l[i]:=List.getElem?_eq_getElem hlt
      have hw:IntKind.i64.wrap ((i:Int) + 1) = ((i + 1:Nat):Int):=wrap_next hlt hlen
      cases b
      ·(refine W.a ?_;simp only [go_sem,seval,h1])
       refine W.no rfl (W.a ?_);simp only [go_sem,seval]
       (refine W.fs (hok) (by simp only [r15,go_sem,seval];rfl) ?_;simp only [resV];try exact V.wk.rfl _)
       rw [← hinv];exact .rfl _
      ·(refine W.a ?_;simp only [go_sem,seval,h1])
       refine W.yes rfl (W.a ?_);simp only [go_sem,seval,h1,nat0,hx]
       (refine W.c1 (ih p.l[i] (List.getElem_mem hlt) _) ?_;simp only [go_sem,seval,hw])
       refine .inv ⟨(i + 1,validM p.l[i]),⟨hlt,by rw [← hinv,List.drop_eq_getElem_cons hlt,List.all_cons,Bool.true_and]⟩,by simp only;omega,?_⟩
       (refine Lew.env ?_;exact lee_here)
     ·have h1:¬ ((i:Int) < (p.l.length:Int)):=by omega
      (refine W.a ?_;simp only [go_sem,seval,h1])
      refine W.no rfl (W.a ?_);simp only [go_sem,seval]
      (refine W.fs (hok) (by simp only [r15,go_sem,seval];rfl) ?_;simp only [resV];try exact V.wk.rfl _)
      rw [← hinv,List.drop_eq_nil_of_le (by omega),List.all_nil,Bool.and_true]
      exact .rfl _))
  ·have h2':¬ ((p.l.length:Int) ≥ 2):=by omega
   cases hn:(p.n == 0)
   all_goals
    ((refine W.a ?_;(try simp only [bne,go_sem,seval,c15,l0,l1,h6',h2',hn, *]));(repeat' (first | (refine W.yes rfl ?_;(refine W.a ?_;simp only [bne,go_sem,seval,c15,l0,l1,h6',h2',hn, *])) | (refine W.no rfl ?_;(refine W.a ?_;simp only [bne,go_sem,seval,c15,l0,l1,h6',h2',hn, *])) | (refine W.testn rfl (fun hT=>?_) (fun hT=>?_) <;> (refine W.a ?_;simp only [bne,go_sem,seval,c15,l0,l1,h6',h2',hn, *])) | (refine W.test rfl (fun hT=>?_) (fun hT=>?_) <;> (refine W.a ?_;simp only [bne,go_sem,seval,c15,l0,l1,h6',h2',hn, *])) | (refine advG_ifn _ _ _ _ (fun hT=>?_) (fun hT=>?_) <;> simp only [bne,go_sem,seval,c15,l0,l1,h6',h2',hn, *]) | (refine advG_if _ _ _ _ (fun hT=>?_) (fun hT=>?_) <;> simp only [bne,go_sem,seval,c15,l0,l1,h6',h2',hn, *]))))
    all_goals (try (first
     | (refine W.loopP (α:=Nat × Bool) (fun x=>x.1 ≤ p.l.length ∧ (x.2 && (p.l.drop x.1).all validM) = validM p) (fun x=>⟨(((base.put (some 1) (.ptr σ.length 0)).put (some 3) (B x.2)).put (some 7) (I (x.1:Nat))),σ ++ [.cells p.v.cellsV]⟩) (fun x=>p.l.length - x.1) (0,true) ⟨Nat.zero_le _,?_⟩ ?_ (fun x hi=>?_)
        focus (simp only [validM_few p (by simpa using h6') h2,List.drop_zero,Bool.false_and])
        focus ((refine Lew.env ?_;exact lee_here)))
     | (refine W.loopP (α:=Nat × Bool) (fun x=>x.1 ≤ p.l.length ∧ (x.2 && (p.l.drop x.1).all validM) = validM p) (fun x=>⟨(((base.put (some 1) (.ptr σ.length 0)).put (some 3) (B x.2)).put (some 7) (I (x.1:Nat))),σ ++ [.cells p.v.cellsV]⟩) (fun x=>p.l.length - x.1) (0,false) ⟨Nat.zero_le _,?_⟩ ?_ (fun x hi=>?_)
        focus (simp only [validM_few p (by simpa using h6') h2,List.drop_zero,Bool.false_and])
        focus ((refine Lew.env ?_;exact lee_here)))))
    all_goals (try (
     obtain ⟨i,b⟩:=x;obtain ⟨hi,hinv⟩:=hi;simp only at hi hinv
     by_cases hlt:i < p.l.length
     ·have h1:((i:Int) < (p.l.length:Int)):=by omega
      have hx:p.l[i]? = some p.l[i]:=List.getElem?_eq_getElem hlt
      have hw:IntKind.i64.wrap ((i:Int) + 1) = ((i + 1:Nat):Int):=wrap_next hlt hlen
      cases b
      ·(refine W.a ?_;simp only [go_sem,seval,h1])
       refine W.no rfl (W.a ?_);simp only [go_sem,seval]
       (refine W.fs (hok) (by simp only [r15,go_sem,seval];rfl) ?_;simp only [resV];try exact V.wk.rfl _)
       rw [← hinv];exact .rfl _
      ·(refine W.a ?_;simp only [go_sem,seval,h1])
       refine W.yes rfl (W.a ?_);simp only [go_sem,seval,h1,nat0,hx]
       (refine W.c1 (ih p.l[i] (List.getElem_mem hlt) _) ?_;simp only [go_sem,seval,hw])
       refine .inv ⟨(i + 1,validM p.l[i]),⟨hlt,by rw [← hinv,List.drop_eq_getElem_cons hlt,List.all_cons,Bool.true_and]⟩,by simp only;omega,?_⟩
       (refine Lew.env ?_;exact lee_here)
     ·have h1:¬ ((i:Int) < (p.l.length:Int)):=by omega
      (refine W.a ?_;simp only [go_sem,seval,h1])
      refine W.no rfl (W.a ?_);simp only [go_sem,seval]
      (refine W.fs (hok) (by simp only [r15,go_sem,seval];rfl) ?_;simp only [resV];try exact V.wk.rfl _)
      rw [← hinv,List.drop_eq_nil_of_le (by omega),List.all_nil,Bool.and_true]
      exact .rfl _))
 ·have h6':(p.k == 6) = false:=by simpa using h6
  ((refine W.a ?_;(try simp only [bne,go_sem,seval,c15,l0,l1,h6', *]));(repeat' (first | (refine W.yes rfl ?_;(refine W.a ?_;simp only [bne,go_sem,seval,c15,l0,l1,h6', *])) | (refine W.no rfl ?_;(refine W.a ?_;simp only [bne,go_sem,seval,c15,l0,l1,h6', *])) | (refine W.c1 (ref01_IsNameD w0 p.name _) ?_;simp only [bne,go_sem,seval,c15,l0,l1,h6', *]) | (refine W.c1 (ref01_IsSymD w0 p.name _) ?_;simp only [bne,go_sem,seval,c15,l0,l1,h6', *]) | (refine W.testn rfl (fun hT=>?_) (fun hT=>?_) <;> (refine W.a ?_;simp only [bne,go_sem,seval,c15,l0,l1,h6', *])) | (refine W.test rfl (fun hT=>?_) (fun hT=>?_) <;> (refine W.a ?_;simp only [bne,go_sem,seval,c15,l0,l1,h6', *])) | (refine advG_ifn _ _ _ _ (fun hT=>?_) (fun hT=>?_) <;> simp only [bne,go_sem,seval,c15,l0,l1,h6', *]) | (refine advG_if _ _ _ _ (fun hT=>?_) (fun hT=>?_) <;> simp only [bne,go_sem,seval,c15,l0,l1,h6', *]))))
  all_goals (try (first
   | (refine W.loopP (α:=Nat × Bool) (fun x=>x.1 ≤ p.l.length ∧ (x.2 && (p.l.drop x.1).all validM) = validM p) (fun x=>⟨(((base.put (some 1) (.ptr σ.length 0)).put (some 3) (B x.2)).put (some 7) (I (x.1:Nat))),σ ++ [.cells p.v.cellsV]⟩) (fun x=>p.l.length - x.1) (0,true) ⟨Nat.zero_le _,?_⟩ ?_ (fun x hi=>?_)
      focus (clear hok hsz;simp only [beq_iff_eq,beq_eq_false_iff_ne,ne_eq,decide_eq_true_eq,decide_eq_false_iff_not] at *;simp [validM_eq p,nodeM, *])
      focus ((refine Lew.env ?_;exact lee_here)))
   | (refine W.loopP (α:=Nat × Bool) (fun x=>x.1 ≤ p.l.length ∧ (x.2 && (p.l.drop x.1).all validM) = validM p) (fun x=>⟨(((base.put (some 1) (.ptr σ.length 0)).put (some 3) (B x.2)).put (some 7) (I (x.1:Nat))),σ ++ [.cells p.v.cellsV]⟩) (fun x=>p.l.length - x.1) (0,false) ⟨Nat.zero_le _,?_⟩ ?_ (fun x hi=>?_)
      focus (clear hok hsz;simp only [beq_iff_eq,beq_eq_false_iff_ne,ne_eq,decide_eq_true_eq,decide_eq_false_iff_not] at *;simp [validM_eq p,nodeM, *])
      focus ((refine Lew.env ?_;exact lee_here)))
   | (refine W.loopP (α:=Nat × Bool) (fun x=>x.1 ≤ p.l.length ∧ (x.2 && (p.l.drop x.1).all validM) = validM p) (fun x=>⟨(((base.put (some 1) (.ptr σ.length 0)).put (some 3) (B x.2)).put (some 7) (I (x.1:Nat))),σ ++ [.cells p.v.cellsV]⟩) (fun x=>p.l.length - x.1) (0,(p.l.length == 0)) ⟨Nat.zero_le _,?_⟩ ?_ (fun x hi=>?_)
      focus (clear hok hsz;simp only [beq_iff_eq,beq_eq_false_iff_ne,ne_eq,decide_eq_true_eq,decide_eq_false_iff_not] at *;simp [validM_eq p,nodeM, *])
      focus ((refine Lew.env ?_;exact lee_here)))
   | (refine W.loopP (α:=Nat × Bool) (fun x=>x.1 ≤ p.l.length ∧ (x.2 && (p.l.drop x.1).all validM) = validM p) (fun x=>⟨(((base.put (some 1) (.ptr σ.length 0)).put (some 3) (B x.2)).put (some 7) (I (x.1:Nat))),σ ++ [.cells p.v.cellsV]⟩) (fun x=>p.l.length - x.1) (0,(p.l.length == 1)) ⟨Nat.zero_le _,?_⟩ ?_ (fun x hi=>?_)
      focus (clear hok hsz;simp only [beq_iff_eq,beq_eq_false_iff_ne,ne_eq,decide_eq_true_eq,decide_eq_false_iff_not] at *;simp [validM_eq p,nodeM, *])
      focus ((refine Lew.env ?_;exact lee_here)))))
  all_goals (try (refine W.fs (hok) (by simp only [r15,go_sem,seval];rfl) ?_;simp only [resV];(first | exact V.wk.rfl _ | (refine wk_bool ?_;clear hsz hok;rw [validM_eq] <;> ((try simp only [beq_iff_eq,beq_eq_false_iff_ne,ne_eq,decide_eq_true_eq,decide_eq_false_iff_not] at *);first | (exfalso;omega) | (simp [nodeM, *];done) | (simp [nodeM, *];omega) | (simp [nodeM, *]))))))
  rotate_left 2
  all_goals (try (
   obtain ⟨i,b⟩:=x;obtain ⟨hi,hinv⟩:=hi;simp only at hi hinv
   by_cases hlt:i < p.l.length
   ·have h1:((i:Int) < (p.l.length:Int)):=by omega
    have hx:p.l[i]? = some p.l[i]:=List.getElem?_eq_getElem hlt
    have hw:IntKind.i64.wrap ((i:Int) + 1) = ((i + 1:Nat):Int):=wrap_next hlt hlen
    cases b
    ·(refine W.a ?_;simp only [go_sem,seval,h1])
     refine W.no rfl (W.a ?_);simp only [go_sem,seval]
     (refine W.fs (hok) (by simp only [r15,go_sem,seval];rfl) ?_;simp only [resV];try exact V.wk.rfl _)
     rw [← hinv];exact .rfl _
    ·(refine W.a ?_;simp only [go_sem,seval,h1])
     refine W.yes rfl (W.a ?_);simp only [go_sem,seval,h1,nat0,hx]
     (refine W.c1 (ih p.l[i] (List.getElem_mem hlt) _) ?_;simp only [go_sem,seval,hw])
     refine .inv ⟨(i + 1,validM p.l[i]),⟨hlt,by rw [← hinv,List.drop_eq_getElem_cons hlt,List.all_cons,Bool.true_and]⟩,by simp only;omega,?_⟩
     (refine Lew.env ?_;exact lee_here)
   ·have h1:¬ ((i:Int) < (p.l.length:Int)):=by omega
    (refine W.a ?_;simp only [go_sem,seval,h1])
    refine W.no rfl (W.a ?_);simp only [go_sem,seval]
    (refine W.fs (hok) (by simp only [r15,go_sem,seval];rfl) ?_;simp only [resV];try exact V.wk.rfl _)
    rw [← hinv,List.drop_eq_nil_of_le (by omega),List.all_nil,Bool.and_true]
    exact .rfl _))
  all_goals
   intro h x hx;rw [h] at hx;simp at hx
end
section
attribute [local go_sem] Pre.v Pre.cs_eq Pre.app

end
section
attribute [local go_sem] Pre.v Pre.cs_eq Pre.app

end
end Go.Proofs.YtpcmcfajfnpjeaaGreatDoor
namespace Go.Proofs.YtpcmcfajfnpjeaaGreatDoor
open Go.RowKit Go.Lamb
end Go.Proofs.YtpcmcfajfnpjeaaGreatDoor
namespace Go.Lamb
open Go Go.RowKit
end Go.Lamb
namespace Go.Proofs.YtpcmcfajfnpjeaaGreatDoor
open Go.RowKit Go.Lamb
attribute [local go_sem] advO_skip advO_reg advO_seq advO_block advO_exit advO_endb advO_opsNil advO_ops advG_yes advG_no advG_none advS_some advS_none advO_cond advO_loop advO_dreg advO_ret advO_bad advO_inv advO_nil advO_zero wantedV Lamb.step ev_t ev_k put_some put_none argEnv popTo cellsAt V.cellsV V.rows V.sub V.toC toCs fillV bytesC byteRows appV rowsV boundV boundL binV binInt binStr eqC eqL V.isNil leaves V.leaf Ins.quiet Ins.pure List.getD_cons_zero List.getD_cons_succ List.getD_nil List.all_cons List.all_nil List.length_cons List.length_nil List.take_succ_cons List.take_zero List.drop_succ_cons List.drop_zero List.cons_append List.nil_append List.append_nil List.append_assoc List.map_cons List.map_nil List.getElem?_cons_zero List.getElem?_cons_succ List.length_append List.length_set hget0 hget hset0 hset hsets hgs0 hgs hss0 hss List.set_cons_zero List.set_cons_succ List.forall_mem_cons List.not_mem_nil false_implies implies_true Option.map_some Bool.and_true Bool.true_and Bool.not_not Bool.not_true Bool.not_false Bool.and_self Bool.or_true Bool.true_or Bool.or_false Bool.false_or Bool.and_false Bool.false_and Bool.false_eq_true beq_self_eq_true and_self and_true true_and if_true if_false Nat.zero_add Nat.add_zero Nat.le_refl Int.toNat_natCast decide_true decide_false beq_t beq_f List.length_map List.getElem?_map I S B opsC toksC OpT.v OpT.cs OpT.zero Tok.v Tok.cs Pre.v Pre.cs_eq k_mk name_mk n_mk l_mk pos_mk Pre.app applyL natCast0 natCast1 natCast2 AOp.o AOp.m AOp.f AOp.l AOp.d AOp.n AOp.x AOp.s AOp.k AOp.y AOp.z EOp.q low_c low_void low_any low_csl low_nilf low_ptr low_osl low_agg low_tup low_fn resEval advPO_nil advPO_loud advPO_quiet pL_yes pL_no pLS_some pLS_none pQ_yes pQ_no pQS_some pQS_loud eq_self Nat.sub_zero zK zT zF zS4
end Go.Proofs.YtpcmcfajfnpjeaaGreatDoor
namespace Go.Lamb
open Go Go.RowKit
def nmX (n:Nat):Str:=120 :: Lib.decDigits n

mutual
def nodesM:Typ → Nat
 | .mk _ _ _ l=>1 + nodesMs l
def nodesMs:List Typ → Nat
 | []=>0
 | p :: l=>nodesM p + nodesMs l
end
theorem nodesM_eq (p:Typ):nodesM p = 1 + nodesMs p.l:=by cases p;rw [nodesM];rfl
theorem nodesMs_mem:∀ {l:List Typ} {u:Typ},u ∈ l → nodesM u ≤ nodesMs l
 | x :: l,u,h=>by
   rw [nodesMs];rcases List.mem_cons.1 h with rfl | h
   ·omega
   ·have:=nodesMs_mem h;omega
theorem nodesM_mem {t u:Typ} (h:u ∈ t.l):nodesM u < nodesM t:=by rw [nodesM_eq t];have:=nodesMs_mem h;omega
mutual
theorem leftT_nodesM:∀ (p:Typ) (n:Int),0 ≤ leftT p n → leftT p n = n - nodesM p
 | .mk _ _ _ l,n,h=>by
   rw [leftT] at h ⊢;rw [leftTs_nodesM l (n - 1) h,nodesM];omega
theorem leftTs_nodesM:∀ (l:List Typ) (n:Int),0 ≤ leftTs l n → leftTs l n = n - nodesMs l
 | [],n,h=>by rw [leftTs,nodesMs];omega
 | p :: l,n,h=>by
   rw [leftTs] at h ⊢
   by_cases h0:0 ≤ n
   ·rw [if_pos h0] at h ⊢
    by_cases h1:0 ≤ leftT p n
    ·rw [leftTs_nodesM l _ h,leftT_nodesM p n h1,nodesMs]
     omega
    ·rw [leftTs_neg h1] at h;exact absurd h h1
   ·rw [if_neg h0] at h;exact absurd h h0
end
theorem nodeM_kinds {t:Typ} (h:nodeM t = true):t.k = 0 ∨ t.k = 1 ∨ t.k = 2 ∨ t.k = 3 ∨ t.k = 4 ∨ t.k = 5 ∨ t.k = 6:=by
 unfold nodeM at h
 repeat' split at h
 all_goals first | omega | (cases h;done)

def applyM (f:Typ) (args:List Typ):Typ:=if args = [] then f else .mk 6 [] 0 ((if f.k = 6 ∧ f.l ≠ [] then f.l else [f]) ++ args)
def withM (t:Typ) (l:List Typ):Typ:=if t.k = 6 ∧ 1 < l.length ∧ (l.headD .none).k = 6 ∧ (t.l.headD .none).k ≠ 6 then applyM (l.headD .none) l.tail else .mk t.k t.name t.n l
mutual
def walkM (f:Typ → Int → Typ) (k:Int):Typ → Typ
 | .mk kd a n l=>if kd = 5 then withM (.mk kd a n l) (walksM f (k + 1) l) else if kd = 6 then withM (.mk kd a n l) (walksM f k l) else f (.mk kd a n l) k
def walksM (f:Typ → Int → Typ) (k:Int):List Typ → List Typ
 | []=>[]
 | x :: l=>walkM f k x :: walksM f k l
end
theorem walksM_map (f:Typ → Int → Typ) (k:Int) (l:List Typ):walksM f k l = l.map (walkM f k):=by
 induction l with
 | nil=>rfl
 | cons x l ih=>rw [walksM,ih];rfl
theorem walkM_eq (f:Typ → Int → Typ) (k:Int) (t:Typ):walkM f k t = if t.k = 5 then withM t (t.l.map (walkM f (k + 1))) else if t.k = 6 then withM t (t.l.map (walkM f k)) else f t k:=by
 cases t
 rw [walkM,walksM_map,walksM_map]
 rfl
def shiftF (a b:Int):Typ → Int → Typ:=fun u k=>if u.k = 3 ∧ u.n ≥ k + a then .mk u.k u.name (u.n + b) u.l else u
def shiftM (a b:Int) (t:Typ):Typ:=walkM (shiftF a b) 0 t
/-! ### terms that may be -/
theorem valid_kids {t:Typ} (h:validM t = true):∀ u ∈ t.l,validM u = true:=by
 rw [validM_eq,Bool.and_eq_true] at h
 exact List.all_eq_true.1 h.2
theorem valid_node {t:Typ} (h:validM t = true):nodeM t = true:=by
 rw [validM_eq,Bool.and_eq_true] at h
 exact h.1
theorem valid_of {t:Typ} (h:nodeM t = true) (k:∀ u ∈ t.l,validM u = true):validM t = true:=by
 rw [validM_eq,Bool.and_eq_true]
 exact ⟨h,List.all_eq_true.2 k⟩
theorem near_kids {m:Int} {t:Typ} (h:nearM m t = true):∀ u ∈ t.l,nearM m u = true:=by
 rw [nearM_eq,Bool.and_eq_true] at h
 exact List.all_eq_true.1 h.2
theorem near_node {m:Int} {t:Typ} (h:nearM m t = true) (hk:t.k ≠ 2):-m ≤ t.n ∧ t.n ≤ m:=by
 rw [nearM_eq,Bool.and_eq_true] at h
 have h:=h.1
 simp [hk] at h
 omega
theorem near_of {m:Int} {t:Typ} (h:t.k = 2 ∨ (-m ≤ t.n ∧ t.n ≤ m)) (k:∀ u ∈ t.l,nearM m u = true):nearM m t = true:=by
 rw [nearM_eq,Bool.and_eq_true]
 refine ⟨?_,List.all_eq_true.2 k⟩
 rcases h with h | h
 ·simp [h]
 ·simp only [Bool.or_eq_true,Bool.not_eq_true',Bool.or_eq_false_iff,decide_eq_false_iff_not]
  right;omega
theorem near_more {m m':Int} (hm:m ≤ m') (t:Typ):nearM m t = true → nearM m' t = true:=by
 refine Typ.ind (P:=fun t=>nearM m t = true → nearM m' t = true) (fun t ih h=>?_) t
 refine near_of ?_ (fun u hu=>ih u hu (near_kids h u hu))
 by_cases hk:t.k = 2
 ·exact .inl hk
 ·have:=near_node h hk;right;omega
theorem valid_app {t:Typ} (h:validM t = true) (hk:t.k = 6):t.n = 0 ∧ t.name = [] ∧ ∃ a b l,t.l = a :: b :: l ∧ a.k ≠ 6:=by
 have hn:=valid_node h
 unfold nodeM at hn
 simp [hk] at hn
 obtain ⟨⟨⟨h1,h2⟩,h3⟩,h4⟩:=hn
 match hl:t.l,h2 with
 | a :: b :: l,_=>exact ⟨h1,h4,a,b,l,rfl,by rw [hl] at h3;exact h3⟩
theorem valid_lam {t:Typ} (h:validM t = true) (hk:t.k = 5):t.n = 0 ∧ t.name = [] ∧ ∃ b,t.l = [b]:=by
 have hn:=valid_node h
 unfold nodeM at hn
 simp [hk] at hn
 obtain ⟨⟨h1,h2⟩,h3⟩:=hn
 match hl:t.l,h3 with
 | [b],_=>exact ⟨h1,h2,b,rfl⟩
theorem valid_mkApp {a b:Typ} {l:List Typ} (ha:a.k ≠ 6) (h:∀ u ∈ a :: b :: l,validM u = true):validM (.mk 6 [] 0 (a :: b :: l)) = true:=by
 refine valid_of ?_ h
 simp [nodeM,tk_mk,tn_mk,tl_mk,tname_mk,ha]
theorem valid_mkLam {b:Typ} (h:validM b = true):validM (.mk 5 [] 0 [b]) = true:=by
 refine valid_of ?_ (fun u hu=>?_)
 ·simp [nodeM,tk_mk,tn_mk,tl_mk,tname_mk]
 ·simp [tl_mk] at hu;rw [hu];exact h
theorem valid_leaf {t:Typ} (h:validM t = true) (h5:t.k ≠ 5) (h6:t.k ≠ 6):t.l = []:=by
 have hn:=valid_node h
 rcases nodeM_kinds hn with hk | hk | hk | hk | hk | hk | hk
 ·unfold nodeM at hn;simp [hk] at hn;exact hn.2
 ·unfold nodeM at hn;simp [hk] at hn;exact hn.2
 ·unfold nodeM at hn;simp [hk] at hn;exact hn.2
 ·unfold nodeM at hn;simp [hk] at hn;exact hn.2
 ·unfold nodeM at hn;simp [hk] at hn;exact hn.2
 ·exact absurd hk h5
 ·exact absurd hk h6
theorem applyM_cons (f b:Typ) (l:List Typ):applyM f (b :: l) = .mk 6 [] 0 ((if f.k = 6 ∧ f.l ≠ [] then f.l else [f]) ++ b :: l):=by
 unfold applyM;rw [if_neg (by simp)]
theorem applyM_nil (f:Typ):applyM f [] = f:=by unfold applyM;rw [if_pos rfl]
theorem applyM_plain {f b:Typ} {l:List Typ} (h:f.k ≠ 6):applyM f (b :: l) = .mk 6 [] 0 (f :: b :: l):=by
 rw [applyM_cons,if_neg (fun e=>h e.1)];rfl
theorem applyM_valid {f:Typ} {args:List Typ} (hf:validM f = true) (h:∀ u ∈ args,validM u = true):validM (applyM f args) = true:=by
 cases args with
 | nil=>rw [applyM_nil];exact hf
 | cons b l=>
   by_cases hk:f.k = 6
   ·obtain ⟨_,_,a,c,r,hl,ha⟩:=valid_app hf hk
    rw [applyM_cons,if_pos ⟨hk,by rw [hl];simp⟩,hl]
    refine valid_mkApp ha fun u hu=>?_
    have hu':u ∈ f.l ∨ u ∈ b :: l:=by rw [hl];simpa [or_assoc] using hu
    rcases hu' with hu | hu
    ·exact valid_kids hf u hu
    ·exact h u hu
   ·rw [applyM_plain hk]
    refine valid_mkApp hk fun u hu=>?_
    rcases List.mem_cons.1 hu with rfl | hu
    ·exact hf
    ·exact h u hu
theorem applyM_near {m:Int} {f:Typ} {args:List Typ} (hm:0 ≤ m) (hf:nearM m f = true) (h:∀ u ∈ args,nearM m u = true):nearM m (applyM f args) = true:=by
 unfold applyM
 split
 ·exact hf
 ·refine near_of (.inr (by simp [tn_mk];omega)) fun u hu=>?_
  simp only [tl_mk] at hu;rcases List.mem_append.1 hu with hu | hu
  ·split at hu
   ·exact near_kids hf u hu
   ·simp at hu;rw [hu];exact hf
  ·exact h u hu
/-! ### shifted -/
theorem shift_kind (a b:Int) (t:Typ):∀ k,validM t = true → (walkM (shiftF a b) k t).k = t.k:=by
 refine Typ.ind (P:=fun t=>∀ k,validM t = true → (walkM (shiftF a b) k t).k = t.k) (fun t ih k h=>?_) t
 rw [walkM_eq]
 by_cases h5:t.k = 5
 ·rw [if_pos h5]
  unfold withM;rw [if_neg (fun e=>by have:=e.1;omega)];rfl
 ·rw [if_neg h5]
  by_cases h6:t.k = 6
  ·rw [if_pos h6]
   obtain ⟨_,_,a',b',l,hl,ha⟩:=valid_app h h6
   have hka:=ih a' (by rw [hl];simp) k (valid_kids h a' (by rw [hl];simp))
   unfold withM;rw [if_neg (fun e=>?_)]
   ·rfl
   ·rw [hl] at e;simp [hka,ha] at e
  ·rw [if_neg h6]
   unfold shiftF;split <;> rfl
theorem shift_app {a b:Int} {t:Typ} (k:Int) (h:validM t = true) (h6:t.k = 6):walkM (shiftF a b) k t = .mk 6 [] 0 (t.l.map (walkM (shiftF a b) k)):=by
 obtain ⟨h1,h2,a',b',l,hl,ha⟩:=valid_app h h6
 have hka:=shift_kind a b a' k (valid_kids h a' (by rw [hl];simp))
 rw [walkM_eq,if_neg (by omega),if_pos h6]
 unfold withM
 rw [if_neg (fun e=>by rw [hl] at e;simp [hka,ha] at e),h6,h2,h1]
theorem shift_lam {a b:Int} {t:Typ} (k:Int) (h:validM t = true) (h5:t.k = 5):walkM (shiftF a b) k t = .mk 5 [] 0 (t.l.map (walkM (shiftF a b) (k + 1))):=by
 obtain ⟨h1,h2,_⟩:=valid_lam h h5
 rw [walkM_eq,if_pos h5]
 unfold withM
 rw [if_neg (fun e=>by have:=e.1;omega),h5,h2,h1]
theorem shift_valid {a b m:Int} (ha:0 ≤ a) (hb:0 ≤ b) (hm:0 ≤ m) (hmb:m + b ≤ 4611686018427387904) (t:Typ):∀ k,0 ≤ k → validM t = true → nearM m t = true → validM (walkM (shiftF a b) k t) = true ∧ nearM (m + b) (walkM (shiftF a b) k t) = true:=by
 refine Typ.ind (P:=fun t=>∀ k,0 ≤ k → validM t = true → nearM m t = true → validM (walkM (shiftF a b) k t) = true ∧ nearM (m + b) (walkM (shiftF a b) k t) = true) (fun t ih k hk h hn=>?_) t
 by_cases h5:t.k = 5
 ·obtain ⟨_,_,c,hl⟩:=valid_lam h h5
  have hc:c ∈ t.l:=by rw [hl];simp
  have:=ih c hc (k + 1) (by omega) (valid_kids h c hc) (near_kids hn c hc)
  rw [shift_lam k h h5,hl];refine ⟨valid_mkLam this.1,near_of (.inr (by simp [tn_mk];omega)) fun u hu=>?_⟩
  simp [tl_mk] at hu;rw [hu];exact this.2
 ·by_cases h6:t.k = 6
  ·obtain ⟨_,_,c,d,l,hl,hca⟩:=valid_app h h6
   have hu:∀ u ∈ t.l.map (walkM (shiftF a b) k),validM u = true ∧ nearM (m + b) u = true:=fun u hu=>by
    obtain ⟨x,hx,rfl⟩:=List.mem_map.1 hu;exact ih x hx k hk (valid_kids h x hx) (near_kids hn x hx)
   rw [shift_app k h h6];rw [hl] at hu ⊢;refine ⟨valid_mkApp ?_ fun u hx=>(hu u hx).1,near_of (.inr (by simp [tn_mk];omega)) fun u hx=>(hu u hx).2⟩
   rw [shift_kind a b c k (valid_kids h c (by rw [hl];simp))]
   exact hca
  ·rw [walkM_eq,if_neg h5,if_neg h6]
   have hl:=valid_leaf h h5 h6
   unfold shiftF;split
   ·rename_i hs
    have hnn:=near_node hn (by omega)
    have hnm:t.name = []:=by have hv:=valid_node h;unfold nodeM at hv;simp [hs.1] at hv;exact hv.1.2
    refine ⟨valid_of ?_ (fun u hu=>by simp [tl_mk,hl] at hu),near_of (.inr (by simp [tn_mk];omega)) (fun u hu=>by simp [tl_mk,hl] at hu)⟩
    simp [nodeM,tk_mk,tn_mk,tl_mk,tname_mk,hs.1,hl,hnm];omega
   ·exact ⟨h,near_more (by omega) t hn⟩
theorem nodesM_pos (t:Typ):1 ≤ nodesM t:=by rw [nodesM_eq];omega
theorem nodesMs_app:∀ (a b:List Typ),nodesMs (a ++ b) = nodesMs a + nodesMs b
 | [],b=>by rw [nodesMs];simp
 | x :: a,b=>by rw [List.cons_append,nodesMs,nodesMs,nodesMs_app a b];omega
theorem nodesM_mk (k:Int) (s:Str) (n:Int) (l:List Typ):nodesM (.mk k s n l) = 1 + nodesMs l:=by rw [nodesM]
theorem nodesM_with (t:Typ) (l:List Typ):nodesM (withM t l) ≤ 1 + nodesMs l:=by
 unfold withM
 split
 ·rename_i h
  obtain ⟨_,hl,hk,_⟩:=h
  match l,hl with
  | a :: b :: r,_=>
    simp only [List.headD_cons,List.tail_cons] at hk ⊢;unfold applyM;rw [if_neg (by simp),nodesM_mk,nodesMs_app,show nodesMs (a :: b :: r) = nodesM a + nodesMs (b :: r) from by rw [nodesMs]]
    split
    ·rw [nodesM_eq a];omega
    ·rw [nodesMs,nodesMs];omega
 ·rw [nodesM_mk];exact Nat.le_refl _
theorem nodesM_walk {g:Typ → Int → Typ} {C:Nat} (hC:1 ≤ C) (hg:∀ u (j:Nat),u.k ≠ 5 → u.k ≠ 6 → nodesM (g u (j:Int)) ≤ C * nodesM u) (t:Typ):∀ (k:Nat),nodesM (walkM g (k:Int) t) ≤ C * nodesM t:=by
 refine Typ.ind (P:=fun t=>∀ (k:Nat),nodesM (walkM g (k:Int) t) ≤ C * nodesM t) (fun t ih k=>?_) t
 have key:∀ (j:Nat) (l:List Typ),(∀ u ∈ l,u ∈ t.l) → nodesMs (l.map (walkM g (j:Int))) ≤ C * nodesMs l:=by
  intro j l
  induction l with
  | nil=>intro _;rw [List.map_nil,nodesMs];exact Nat.zero_le _
  | cons x l ihl=>
    intro h
    have h1:=ih x (h x (List.mem_cons_self ..)) j
    have h2:=ihl (fun u hu=>h u (List.mem_cons_of_mem _ hu))
    rw [List.map_cons,nodesMs,nodesMs,Nat.mul_add];omega
 have fin:∀ (j:Nat),nodesM (withM t (t.l.map (walkM g (j:Int)))) ≤ C * nodesM t:=fun j=>by
  have h1:=nodesM_with t (t.l.map (walkM g (j:Int)))
  have h2:=key j t.l (fun _ h=>h)
  rw [nodesM_eq t,Nat.mul_add];omega
 rw [walkM_eq]
 split
 ·exact fin (k + 1)
 ·split
  ·exact fin k
  ·exact hg t k (by assumption) (by assumption)
theorem kidsMs_len:∀ (l:List Typ),l.length ≤ nodesMs l
 | []=>Nat.zero_le _
 | p :: l=>by
   have:=kidsMs_len l
   rw [nodesMs,nodesM_eq,List.length_cons];omega
theorem kids_nodes (t:Typ):t.l.length ≤ nodesM t:=by
 have:=kidsMs_len t.l
 rw [nodesM_eq];omega
theorem shift_nodes (a b:Int) (t:Typ) (j:Nat):nodesM (walkM (shiftF a b) (j:Int) t) ≤ nodesM t:=by
 have h1:=nodesM_walk (g:=shiftF a b) (C:=1) (Nat.le_refl _) (fun v i _ _=>by
  unfold shiftF;split
  ·rw [nodesM_mk,nodesM_eq v];omega
  ·omega) t j
 omega
end Go.Lamb
namespace Go.Proofs.YtpcmcfajfnpjeaaGreatDoor
open Go.RowKit Go.Lamb
attribute [local go_sem] advO_skip advO_reg advO_seq advO_block advO_exit advO_endb advO_opsNil advO_ops advG_yes advG_no advG_none advS_some advS_none advO_cond advO_loop advO_dreg advO_ret advO_bad advO_inv advO_nil advO_zero wantedV Lamb.step ev_t ev_k put_some put_none argEnv popTo cellsAt V.cellsV V.rows V.sub V.toC toCs fillV bytesC byteRows appV rowsV boundV boundL binV binInt binStr eqC eqL V.isNil leaves V.leaf Ins.quiet Ins.pure List.getD_cons_zero List.getD_cons_succ List.getD_nil List.all_cons List.all_nil List.length_cons List.length_nil List.take_succ_cons List.take_zero List.drop_succ_cons List.drop_zero List.cons_append List.nil_append List.append_nil List.append_assoc List.map_cons List.map_nil List.getElem?_cons_zero List.getElem?_cons_succ List.length_append List.length_set hget0 hget hset0 hset hsets hgs0 hgs hss0 hss List.set_cons_zero List.set_cons_succ List.forall_mem_cons List.not_mem_nil false_implies implies_true Option.map_some Bool.and_true Bool.true_and Bool.not_not Bool.not_true Bool.not_false Bool.and_self Bool.or_true Bool.true_or Bool.or_false Bool.false_or Bool.and_false Bool.false_and Bool.false_eq_true beq_self_eq_true and_self and_true true_and if_true if_false Nat.zero_add Nat.add_zero Nat.le_refl Int.toNat_natCast decide_true decide_false beq_t beq_f List.length_map List.getElem?_map I S B opsC toksC OpT.v OpT.cs OpT.zero Tok.v Tok.cs Pre.v Pre.cs_eq k_mk name_mk n_mk l_mk pos_mk Pre.app applyL natCast0 natCast1 natCast2 AOp.o AOp.m AOp.f AOp.l AOp.d AOp.n AOp.x AOp.s AOp.k AOp.y AOp.z EOp.q low_c low_void low_any low_csl low_nilf low_ptr low_osl low_agg low_tup low_fn resEval advPO_nil advPO_loud advPO_quiet pL_yes pL_no pLS_some pLS_none pQ_yes pQ_no pQS_some pQS_loud eq_self Nat.sub_zero zK zT zF zS4
section
attribute [local go_sem] Sg.v findV foundV Typ.v OpT.v nmX

end
section
attribute [local go_sem] Sg.v Typ.v Typ.cs_eq Pre.v Pre.cs_eq Pre.app tk_mk tname_mk tn_mk tl_mk

end
section
attribute [local go_sem] Sg.v Typ.v Typ.cs_eq Pre.v Pre.cs_eq Pre.app tk_mk tname_mk tn_mk tl_mk

end
section
attribute [local go_sem] Sg.v Typ.v Typ.cs_eq Pre.v Pre.cs_eq Pre.app tk_mk tname_mk tn_mk tl_mk

end
section
attribute [local go_sem] Sg.v Typ.v Typ.cs_eq Pre.v Pre.cs_eq Pre.app tk_mk tname_mk tn_mk tl_mk

end
section
attribute [local go_sem] Sg.v Typ.v Typ.cs_eq Pre.v Pre.cs_eq Pre.app tk_mk tname_mk tn_mk tl_mk

end
section
section
attribute [local go_sem] tysC
theorem slices_ConcatT (w0:World) (ls:List (List Typ)) (hn:ls.flatten.length ≤ 30000000000) (hls:ls.length ≤ 30000000000) (σ:H) :
  DC Tryz.prog w0 124 [.csl (ls.map fun r=>[tysC r])] σ (Same (.c (tysC ls.flatten)) σ):=by
 refine k124.go rfl (fun hok hsz=>?_)
 (refine W.a ?_;simp only [go_sem,seval,c124])
 refine W.loopP (fun i=>i ≤ ls.length) (fun i=>⟨(((((base.put (some 0) (.csl (ls.map fun r=>[tysC r]))).put (some 3) (I (ls.take i).flatten.length)).put (some 9) (.csl (ls.map fun r=>[tysC r]))).put (some 10) (I ls.length)).put (some 11) (I i)),σ⟩) (fun i=>ls.length - i) 0 (Nat.zero_le _) ?_ (fun i hi=>?_)
 ·(refine Lew.env ?_;exact lee_here)
 ·by_cases hlt:i < ls.length
  ·have h1:((i:Int) < (ls.length:Int)):=by omega
   have hx:ls[i]? = some ls[i]:=List.getElem?_eq_getElem hlt
   have hft:=flat_take hlt
   have hfl:(ls.take (i + 1)).flatten.length = (ls.take i).flatten.length + ls[i].length:=by rw [hft,List.length_append]
   have hle:=flat_le (ls:=ls) (i + 1)
   have hw:IntKind.i64.wrap ((i:Int) + 1) = ((i + 1:Nat):Int):=by rw [wrap_in] <;> omega
   have hw2:IntKind.i64.wrap (((ls.take i).flatten.length:Int) + (ls[i].length:Int)) = (((ls.take (i + 1)).flatten.length:Nat):Int):=by rw [wrap_in] <;> omega
   have hneg:¬ ((((ls.take (i + 1)).flatten.length:Nat):Int) < 0):=by omega
   (refine W.a ?_;simp only [go_sem,seval,h1])
   refine W.yes rfl (W.a ?_);simp only [go_sem,seval,h1,nat0,hx,hw2,hneg];refine W.no rfl (W.a ?_);simp only [go_sem,seval,hw];refine .inv ⟨i + 1,hlt,by omega,?_⟩
   (refine Lew.env ?_;exact lee_here)
  ·have h1:¬ ((i:Int) < (ls.length:Int)):=by omega
   have hi':i = ls.length:=by omega
   subst hi'
   (refine W.a ?_;simp only [go_sem,seval,h1])
   refine W.no rfl (W.a ?_);simp only [go_sem,seval,List.take_length]
   (refine W.c1 (slices_GrowT w0 ls.flatten.length (by omega) _) ?_;simp only [go_sem,seval])
   refine W.loopP (fun i=>i ≤ ls.length) (fun i=>⟨((((base.put (some 6) (.osl σ.length ((ls.take i).flatten.map Typ.cs))).put (some 25) (.csl (ls.map fun r=>[tysC r]))).put (some 26) (I ls.length)).put (some 27) (I i)),σ ++ [.spare 30 4 (ls.take i).flatten.length]⟩) (fun i=>ls.length - i) 0 (Nat.zero_le _) ?_ (fun i hi=>?_)
   ·(refine Lew.env ?_;exact lee_here)
   ·by_cases hlt:i < ls.length
    ·have h1:((i:Int) < (ls.length:Int)):=by omega
     have hx:ls[i]? = some ls[i]:=List.getElem?_eq_getElem hlt
     have hft:=flat_take hlt
     have hfl:(ls.take (i + 1)).flatten.length = (ls.take i).flatten.length + ls[i].length:=by rw [hft,List.length_append]
     have hle:=flat_le (ls:=ls) (i + 1)
     have hb1:((ls.take i).flatten.length + ls[i].length) * 56 ≤ 140737488355328:=by omega
     have hb2:(ls.take i).flatten.length + ls[i].length ≤ 140737488355328:=by omega
     have hb3:∀ r ∈ ls[i].map Typ.cs,r.length = 4:=fun r hr=>by obtain ⟨o,_,rfl⟩:=List.mem_map.1 hr;rw [Typ.cs_eq];rfl
     have hta:(ls.take (i + 1)).flatten.map Typ.cs = (ls.take i).flatten.map Typ.cs ++ ls[i].map Typ.cs:=by rw [hft,List.map_append]
     have hw:IntKind.i64.wrap ((i:Int) + 1) = ((i + 1:Nat):Int):=by rw [wrap_in] <;> omega
     (refine W.a ?_;simp only [go_sem,seval,h1])
     refine W.yes rfl (W.a ?_);simp only [go_sem,seval,h1,nat0,hx,hb1,hb2,eq_self,hw,eq_true hb3];refine .inv ⟨i + 1,hlt,by omega,?_⟩
     simp only [go_sem,seval,hta,hfl]
     (refine Lew.env ?_;exact lee_here)
    ·have h1:¬ ((i:Int) < (ls.length:Int)):=by omega
     have hi':i = ls.length:=by omega
     subst hi'
     (refine W.a ?_;simp only [go_sem,seval,h1])
     refine W.no rfl (W.a ?_);simp only [go_sem,seval,List.take_length]
     (refine W.fs (hok) (by simp only [r124,go_sem,seval];rfl) ?_;simp only [resV];try exact V.wk.rfl _)
     (all_goals exact wk_here)
end
attribute [local go_sem] Typ.v Typ.cs_eq tk_mk tname_mk tn_mk tl_mk
theorem term_within (w0:World) (t:Typ) (σ:H):DC Tryz.prog w0 170 [t.v] σ (Same (.tup [.c (tysC (if t.k = 5 ∨ t.k = 6 then t.l else [])),I (if t.k = 5 then 1 else 0)]) σ):=by
 refine k170.go rfl (fun hok hsz=>?_)
 by_cases h5:t.k = 5
 ·have k5:(t.k == 5) = true:=by simp [h5]
  rw [if_pos (.inl h5),if_pos h5];clear h5
  ((refine W.a ?_;(try simp only [bne,go_sem,seval,c170,k5, *]));(repeat' (first | (refine W.yes rfl ?_;(refine W.a ?_;simp only [bne,go_sem,seval,c170,k5, *])) | (refine W.no rfl ?_;(refine W.a ?_;simp only [bne,go_sem,seval,c170,k5, *])) | (refine W.testn rfl (fun hT=>?_) (fun hT=>?_) <;> (refine W.a ?_;simp only [bne,go_sem,seval,c170,k5, *])) | (refine W.test rfl (fun hT=>?_) (fun hT=>?_) <;> (refine W.a ?_;simp only [bne,go_sem,seval,c170,k5, *])) | (refine advG_ifn _ _ _ _ (fun hT=>?_) (fun hT=>?_) <;> simp only [bne,go_sem,seval,c170,k5, *]) | (refine advG_if _ _ _ _ (fun hT=>?_) (fun hT=>?_) <;> simp only [bne,go_sem,seval,c170,k5, *]))))
  all_goals (refine W.fs (hok) (by simp only [r170,go_sem,seval];rfl) ?_;simp only [resV];try exact V.wk.rfl _)
  all_goals (all_goals exact wk_here)
 ·rw [if_neg h5]
  have k5:(t.k == 5) = false:=by simp [h5]
  by_cases h6:t.k = 6
  ·have k6:(t.k == 6) = true:=by simp [h6]
   rw [if_pos (.inr h6)];clear h6 h5
   ((refine W.a ?_;(try simp only [bne,go_sem,seval,c170,k5,k6, *]));(repeat' (first | (refine W.yes rfl ?_;(refine W.a ?_;simp only [bne,go_sem,seval,c170,k5,k6, *])) | (refine W.no rfl ?_;(refine W.a ?_;simp only [bne,go_sem,seval,c170,k5,k6, *])) | (refine W.testn rfl (fun hT=>?_) (fun hT=>?_) <;> (refine W.a ?_;simp only [bne,go_sem,seval,c170,k5,k6, *])) | (refine W.test rfl (fun hT=>?_) (fun hT=>?_) <;> (refine W.a ?_;simp only [bne,go_sem,seval,c170,k5,k6, *])) | (refine advG_ifn _ _ _ _ (fun hT=>?_) (fun hT=>?_) <;> simp only [bne,go_sem,seval,c170,k5,k6, *]) | (refine advG_if _ _ _ _ (fun hT=>?_) (fun hT=>?_) <;> simp only [bne,go_sem,seval,c170,k5,k6, *]))))
   all_goals (refine W.fs (hok) (by simp only [r170,go_sem,seval];rfl) ?_;simp only [resV];try exact V.wk.rfl _)
   all_goals (all_goals exact wk_here)
  ·have k6:(t.k == 6) = false:=by simp [h6]
   rw [if_neg (by omega)]
   clear h6 h5
   ((refine W.a ?_;(try simp only [bne,go_sem,seval,c170,k5,k6, *]));(repeat' (first | (refine W.yes rfl ?_;(refine W.a ?_;simp only [bne,go_sem,seval,c170,k5,k6, *])) | (refine W.no rfl ?_;(refine W.a ?_;simp only [bne,go_sem,seval,c170,k5,k6, *])) | (refine W.testn rfl (fun hT=>?_) (fun hT=>?_) <;> (refine W.a ?_;simp only [bne,go_sem,seval,c170,k5,k6, *])) | (refine W.test rfl (fun hT=>?_) (fun hT=>?_) <;> (refine W.a ?_;simp only [bne,go_sem,seval,c170,k5,k6, *])) | (refine advG_ifn _ _ _ _ (fun hT=>?_) (fun hT=>?_) <;> simp only [bne,go_sem,seval,c170,k5,k6, *]) | (refine advG_if _ _ _ _ (fun hT=>?_) (fun hT=>?_) <;> simp only [bne,go_sem,seval,c170,k5,k6, *]))))
   all_goals (refine W.fs (hok) (by simp only [r170,go_sem,seval];rfl) ?_;simp only [resV];try exact V.wk.rfl _)
   all_goals (all_goals exact wk_here)
theorem term_Apply (w0:World) (f:Typ) (xs:List Typ) (hn:f.l.length + xs.length ≤ 29999999998) (σ:H):DC Tryz.prog w0 42 [f.v,.c (.sl (xs.map Typ.cs))] σ (Same (applyM f xs).v σ):=by
 refine k42.go rfl (fun hok hsz=>?_)
 by_cases h0:xs = []
 ·have e:applyM f xs = f:=by unfold applyM;rw [if_pos h0]
  rw [e];subst h0
  (refine W.a ?_;simp only [go_sem,seval,c42])
  refine W.yes rfl (W.a ?_);simp only [go_sem,seval]
  (refine W.fs (hok) (by simp only [r42,go_sem,seval];rfl) ?_;simp only [resV];try exact V.wk.rfl _)
  all_goals (all_goals exact wk_here)
 have hl:0 < xs.length:=List.length_pos_iff.2 h0
 have q0:((xs.length:Int) == 0) = false:=by simp;omega
 have e:applyM f xs = .mk 6 [] 0 ((if f.k = 6 ∧ f.l ≠ [] then f.l else [f]) ++ xs):=by unfold applyM;rw [if_neg h0]
 rw [e]
 clear e
 have hC:=fun (h:List Typ) (hh:h.length ≤ 29999999999 - xs.length) σ=>slices_ConcatT w0 [h,xs] (by simp;omega) (by simp) σ
 simp only [List.map_cons,List.map_nil,List.flatten_cons,List.flatten_nil,List.append_nil,tysC] at hC
 by_cases h6:f.k = 6
 ·have k6:(f.k == 6) = true:=by simp [h6]
  by_cases hf:f.l = []
  ·rw [if_neg (fun h=>h.2 hf)]
   have q1:¬ ((f.l.length:Int) > 0):=by rw [hf];simp
   have hCc:=hC [f] (by simp only [List.length_cons,List.length_nil];omega)
   simp only [List.map_cons,List.map_nil,Typ.cs_eq] at hCc;clear h6 hf
   (refine W.a ?_;simp only [go_sem,seval,c42,q0])
   refine W.no rfl (W.a ?_);simp only [go_sem,seval,k6,q1];refine W.no rfl (W.a ?_);simp only [go_sem,seval]
   (refine W.c1 (hCc _) ?_;simp only [go_sem,seval])
   (refine W.a ?_;simp only [go_sem,seval])
   (refine W.fs (hok) (by simp only [r42,go_sem,seval];rfl) ?_;simp only [resV];try exact V.wk.rfl _)
   all_goals (all_goals exact wk_here)
  ·rw [if_pos ⟨h6,hf⟩]
   have hp:0 < f.l.length:=List.length_pos_iff.2 hf
   have q1:((f.l.length:Int) > 0):=by omega
   have hCc:=hC f.l (by omega)
   clear h6 hf
   (refine W.a ?_;simp only [go_sem,seval,c42,q0])
   refine W.no rfl (W.a ?_);simp only [go_sem,seval,k6,q1];refine W.yes rfl (W.a ?_);simp only [go_sem,seval]
   (refine W.c1 (hCc _) ?_;simp only [go_sem,seval])
   (refine W.a ?_;simp only [go_sem,seval])
   (refine W.fs (hok) (by simp only [r42,go_sem,seval];rfl) ?_;simp only [resV];try exact V.wk.rfl _)
   all_goals (all_goals exact wk_here)
 ·rw [if_neg (fun h=>h6 h.1)]
  have k6:(f.k == 6) = false:=by simp [h6]
  have hCc:=hC [f] (by simp only [List.length_cons,List.length_nil];omega)
  simp only [List.map_cons,List.map_nil,Typ.cs_eq] at hCc;clear h6
  (refine W.a ?_;simp only [go_sem,seval,c42,q0])
  refine W.no rfl (W.a ?_);simp only [go_sem,seval,k6];refine W.no rfl (W.a ?_);simp only [go_sem,seval]
  (refine W.c1 (hCc _) ?_;simp only [go_sem,seval])
  (refine W.a ?_;simp only [go_sem,seval])
  (refine W.fs (hok) (by simp only [r42,go_sem,seval];rfl) ?_;simp only [resV];try exact V.wk.rfl _)
  all_goals (all_goals exact wk_here)
end
section
def c84:AC:=.seq (.reg [.o 3 (.box (.t 0)),.o 4 (.box (.t 1)),.o 6 (.box (.k (.agg zS4)))]) (.seq (.seq (.reg [.f 12 0 4,.l 13 12,.o 14 (.bin .neq (.t 13) (zK 5)),.m 15 14,.y 16 (.fadd 0 (.t 4)) 15,.y 17 (.load1 (.t 16)) 15,.y 18 (.bin .neq (.t 17) (zK 6)) 15,.o 19 (.pick (.t 15) (.t 18) zF)]) (.cond (.t 19) (.seq (.reg [.f 20 0 3,.l 21 20,.d 22 4 4,.m 23 2,.o 24 (.call (.t 21) [.t 22,.t 23]),.s 4 6 24]) (.ret)) (.skip))) (.seq (.reg [.d 26 4 4,.k 27 170 [.t 26],.m 25 27,.x 28 25 0,.x 29 25 1,.m 7 28,.m 8 29]) (.seq (.reg [.o 9 (.mov (.k (.csl [])))]) (.seq (.seq (.reg [.m 30 7,.o 31 (.lenr (.t 30)),.o 32 (.mov (zK 0))]) (.block 0 (.loop (.seq (.reg [.o 33 (.bin .lss (.t 32) (.t 31))]) (.seq (.cond (.t 33) (.skip) (.exit 0)) (.seq (.block 1 (.seq (.reg [.o 34 (.iadd 4 (.t 30) (.t 32)),.d 35 4 34,.o 11 (.box (.k (.agg zS4))),.s 4 11 35]) (.reg [.m 36 9,.d 37 1 3,.d 38 4 11,.m 39 2,.m 40 8,.o 41 (.bin .add (.t 39) (.t 40)),.k 42 84 [.t 37,.t 38,.t 41],.o 43 (.bsl 4 [.t 42]),.o 44 (.app 30 4 56 (.t 36) (.t 43)),.m 9 44]))) (.reg [.o 45 (.bin .add (.t 32) (zK 1)),.m 32 45]))))))) (.seq (.seq (.reg [.f 46 0 4,.l 47 46,.o 48 (.bin .eql (.t 47) (zK 6)),.m 49 48,.y 50 (.mov (.t 9)) 49,.y 51 (.lenr (.t 50)) 49,.y 52 (.bin .gtr (.t 51) (zK 1)) 49,.o 53 (.pick (.t 49) (.t 52) zF),.m 54 53,.y 55 (.mov (.t 9)) 54,.y 56 (.iadd 4 (.t 55) (zK 0)) 54,.y 57 (.fadd 0 (.t 56)) 54,.y 58 (.load1 (.t 57)) 54,.y 59 (.bin .eql (.t 58) (zK 6)) 54,.o 60 (.pick (.t 54) (.t 59) zF),.m 61 60,.y 62 (.mov (.t 7)) 61,.y 63 (.iadd 4 (.t 62) (zK 0)) 61,.y 64 (.fadd 0 (.t 63)) 61,.y 65 (.load1 (.t 64)) 61,.y 66 (.bin .neq (.t 65) (zK 6)) 61,.o 67 (.pick (.t 61) (.t 66) zF)]) (.cond (.t 67) (.seq (.dreg [.m 68 9,.o 69 (.iadd 4 (.t 68) (zK 0)),.d 70 4 69,.m 71 9,.o 72 (.slr 4 (.t 71) (some (zK 1)) none none),.k 73 42 [.t 70,.t 72],.s 4 6 73] [.q (.m 68 9),.q (.o 69 (.iadd 4 (.t 68) (zK 0))),.q (.d 70 4 69),.q (.m 71 9),.q (.o 72 (.slr 4 (.t 71) (some (zK 1)) none none)),⟨.k 73 42 [.t 70,.t 72],true,0⟩,⟨.s 4 6 73,true,1⟩]) (.ret)) (.skip))) (.seq (.reg [.f 74 0 4,.l 75 74,.f 76 1 4,.l 77 76,.f 78 2 4,.l 79 78,.m 80 9,.o 81 (.build zS4 [(0,1,(.t 75)),(1,1,(.t 77)),(2,1,(.t 79)),(3,1,(.t 80))]),.s 4 6 81]) (.ret)))))))
def r84:List ResV:=[.celln 4 6]
theorem k84:CodeIs Tryz.prog 84 3 Tryz.f84 c84 r84:=.auto Tryz.func84
def c83:AC:=.seq (.reg [.o 3 (.box (.t 0)),.o 4 (.box (.t 1)),.o 5 (.box (.t 2)),.o 6 (.box (.k (.agg zS4)))]) (.seq (.reg [.o 7 (.mkfn 172 [.t 4,.t 5]),.o 8 (.build [.nilf] [(0,1,(.t 7))]),.d 9 4 3,.k 10 84 [.t 8,.t 9,(zK 0)],.s 4 6 10]) (.ret))
def r83:List ResV:=[.celln 4 6]
theorem k83:CodeIs Tryz.prog 83 3 Tryz.f83 c83 r83:=.auto Tryz.func83
def c172:AC:=.seq (.reg [.o 4 (.box (.t 0)),.o 6 (.box (.k (.agg zS4)))]) (.seq (.seq (.reg [.f 7 0 4,.l 8 7,.o 9 (.bin .eql (.t 8) (zK 3)),.m 10 9,.y 11 (.fadd 2 (.t 4)) 10,.y 12 (.load1 (.t 11)) 10,.y 13 (.mov (.t 1)) 10,.y 14 (.load1 (.t 2)) 10,.y 15 (.bin .add (.t 13) (.t 14)) 10,.y 16 (.bin .geq (.t 12) (.t 15)) 10,.o 17 (.pick (.t 10) (.t 16) zF)]) (.cond (.t 17) (.seq (.reg [.d 18 4 4,.l 19 3,.k 20 173 [.t 18,.t 19],.s 4 6 20]) (.ret)) (.skip))) (.seq (.reg [.d 21 4 4,.s 4 6 21]) (.ret)))
def r172:List ResV:=[.celln 4 6]
theorem k172:CodeIs Tryz.prog 172 4 Tryz.f172 c172 r172:=.auto Tryz.func172
def c173:AC:=.seq (.reg [.o 2 (.box (.t 0)),.o 4 (.box (.k (.agg zS4)))]) (.seq (.reg [.f 5 2 2,.l 6 5,.m 7 1,.o 8 (.bin .add (.t 6) (.t 7)),.f 9 2 2,.s 1 9 8]) (.seq (.reg [.d 10 4 2,.s 4 4 10]) (.ret)))
def r173:List ResV:=[.celln 4 4]
theorem k173:CodeIs Tryz.prog 173 2 Tryz.f173 c173 r173:=.auto Tryz.func173
end
section
attribute [local go_sem] Typ.v Typ.cs_eq tk_mk tname_mk tn_mk tl_mk tysC
structure LeafR (w0:World) (E:H → Prop) (Pp:Typ → Prop) (g:Typ → Int → Typ) (fid:FuncId) (caps:List V):Prop where
 more:∀ σ L,E σ → E (σ ++ L)
 low:∀ σ,E σ → ∀ x ∈ caps,V.low σ.length x
 kid:∀ u,Pp u → ∀ v ∈ u.l,Pp v
 len:∀ u,Pp u → u.l.length ≤ 12000000000
 big:∀ u,Pp u → ∀ j:Nat,(walkM g (j:Int) u).l.length ≤ 12000000000
 leaf:∀ σ,E σ → ∀ u (j:Nat),Pp u → j ≤ 30000000000 → u.k ≠ 5 → u.k ≠ 6 → DC Tryz.prog w0 fid ([u.v,I (j:Int)] ++ caps) σ (Same (g u (j:Int)).v σ)
theorem walk_term {w0:World} {E:H → Prop} {Pp:Typ → Prop} {g:Typ → Int → Typ} {fid:FuncId} {caps:List V} (hR:LeafR w0 E Pp g fid caps) (t:Typ):Pp t → ∀ (k:Nat),k + nodesM t ≤ 30000000000 → ∀ σ,E σ → DC Tryz.prog w0 84 [.agg [.fn fid caps],t.v,I (k:Int)] σ (Same (walkM g (k:Int) t).v σ):=by
 refine Typ.ind (P:=fun t=>Pp t → ∀ (k:Nat),k + nodesM t ≤ 30000000000 → ∀ σ,E σ → DC Tryz.prog w0 84 [.agg [.fn fid caps],t.v,I (k:Int)] σ (Same (walkM g (k:Int) t).v σ)) (fun t ih hp k hk σ hσ=>?_) t
 refine k84.go rfl (fun hok hsz=>?_)
 by_cases hlf:t.k ≠ 5 ∧ t.k ≠ 6
 ·have hc:=fun L=>hR.leaf (σ ++ L) (hR.more _ _ hσ) t k hp (by omega) hlf.1 hlf.2
  rw [walkM_eq,if_neg hlf.1,if_neg hlf.2]
  have k5:(t.k == 5) = false:=by simp [hlf.1]
  have k6:(t.k == 6) = false:=by simp [hlf.2]
  clear hlf
  ((try refine W.a ?_);simp only [go_sem,seval,c84,bne,k5,k6])
  refine W.yes rfl (W.a ?_);simp only [go_sem,seval]
  (refine W.c1 (hc _) ?_;simp only [go_sem,seval])
  ((try refine W.a ?_);simp only [go_sem,seval])
  (refine W.fs (hok) (by simp only [r84,go_sem,seval];rfl) ?_;simp only [resV];try exact V.wk.rfl _)
  all_goals (all_goals exact wk_here)
 obtain ⟨B,hB,hwk,hwi⟩:∃ B:Nat,B ≤ 1 ∧ walkM g (k:Int) t = withM t (t.l.map (walkM g ((k + B:Nat):Int))) ∧ ∀ σ,DC Tryz.prog w0 170 [t.v] σ (Same (.tup [.c (tysC t.l),I (B:Int)]) σ):=by
  by_cases h5:t.k = 5
  ·refine ⟨1,Nat.le_refl _,?_,fun σ=>?_⟩
   ·rw [walkM_eq,if_pos h5];rfl
   ·have:=term_within w0 t σ
    rwa [if_pos (.inl h5),if_pos h5] at this
  ·have h6:t.k = 6:=by omega
   refine ⟨0,by decide,?_,fun σ=>?_⟩
   ·rw [walkM_eq,if_neg h5,if_pos h6];rfl
   ·have:=term_within w0 t σ
    rwa [if_pos (.inr h6),if_neg h5] at this
 rw [hwk]
 clear hwk
 have hlen:=hR.len t hp
 obtain ⟨o,ho⟩:∃ o,o = t.l.map (walkM g ((k + B:Nat):Int)):=⟨_,rfl⟩
 have hol:o.length = t.l.length:=by rw [ho,List.length_map]
 have hkids:∀ i (hi:i < t.l.length) (hi':i < o.length) L,DC Tryz.prog w0 84 [.agg [.fn fid caps],t.l[i].v,I ((k + B:Nat):Int)] (σ ++ L) (Same o[i].v (σ ++ L)):=fun i hi hi' L=>by
  have hm:=List.getElem_mem hi
  have:=nodesM_mem hm
  have e:o[i] = walkM g ((k + B:Nat):Int) t.l[i]:=by simp [ho]
  rw [e];exact ih _ hm (hR.kid t hp _ hm) (k + B) (by omega) _ (hR.more _ _ hσ)
 have hbig:∀ u ∈ o,u.l.length ≤ 12000000000:=fun u hu=>by
  rw [ho] at hu;obtain ⟨v,hv,rfl⟩:=List.mem_map.1 hu;exact hR.big v (hR.kid t hp v hv) _
 rw [← ho]
 clear ho
 have hw0:IntKind.i64.wrap ((k:Int) + (B:Int)) = ((k + B:Nat):Int):=by rw [wrap_in] <;> omega
 have hor:(t.k == 5) = true ∧ (t.k == 6) = false ∨ (t.k == 5) = false ∧ (t.k == 6) = true:=by
  by_cases h5:t.k = 5
  ·exact .inl ⟨by simp [h5],by simp [h5]⟩
  ·exact .inr ⟨by simp [h5],by simp;omega⟩
 have hfl:∀ n,σ.length ≤ n → ((∀ x,x ∈ caps → V.low n x) ↔ True):=fun n hn=>by
  simp only [iff_true];exact fun x hx=>V.low_mono hn (hR.low σ hσ x hx)
 have hfl4:=hfl (σ.length + 4) (by omega)
 obtain ⟨z,hz⟩:∃ z,z = withM t o:=⟨_,rfl⟩
 rw [← hz]
 have hst:W Tryz.prog w0 σ.length (Lamb.Fin r84 σ.length (Same z.v σ)) [.code c84] ⟨argEnv [.agg [.fn fid caps],t.v,I (k:Int)],σ⟩:=by
  rcases hor with ⟨k5,k6⟩ | ⟨k5,k6⟩
  all_goals clear hlf
  all_goals (
   ((try refine W.a ?_);simp only [go_sem,seval,c84,bne,k5,k6])
   refine W.no rfl (W.a ?_);simp only [go_sem,seval]
   (refine W.c1 (hwi _) ?_;simp only [go_sem,seval])
   ((try refine W.a ?_);simp only [go_sem,seval])
   refine W.own 9 30 4 rfl ?_
   ((try refine W.a ?_);simp only [go_sem,seval])
   refine W.loopP (fun i=>i ≤ t.l.length) (fun i=>⟨((((((((((base.put (some 2) (I (k:Int))).put (some 3) (.ptr σ.length 0)).put (some 4) (.ptr (σ.length + 1) 0)).put (some 6) (.ptr (σ.length + 2) 0)).put (some 7) (.c (.sl (t.l.map Typ.cs)))).put (some 8) (I (B:Int))).put (some 9) (.osl (σ.length + 3) ((o.take i).map Typ.cs))).put (some 30) (.c (.sl (t.l.map Typ.cs)))).put (some 31) (I (t.l.length:Int))).put (some 32) (I (i:Int))),σ ++ [.cells [.fn fid caps],.cells t.v.cellsV,.cells [I 0,S [],I 0,.csl []],.spare 30 4 i]⟩) (fun i=>t.l.length - i) 0 (Nat.zero_le _) ?_ (fun i hi=>?_)
   ·(refine Lew.env ?_;exact lee_here)
   by_cases hlt:i < t.l.length
   ·have hlt':i < o.length:=by omega
    have h1:(i:Int) < (t.l.length:Int):=by omega
    have h0:(0:Int) ≤ (i:Int):=by omega
    have hx:t.l[i]? = some t.l[i]:=List.getElem?_eq_getElem hlt
    have hw:IntKind.i64.wrap ((i:Int) + 1) = ((i + 1:Nat):Int):=by rw [wrap_in] <;> omega
    have hb1:(i + 1) * 56 ≤ 140737488355328:=by omega
    have hb2:i ≤ 140737488355327:=by omega
    have hti:(o.take i).length = i:=by rw [List.length_take];omega
    have hts:(o.take (i + 1)).map Typ.cs = (o.take i).map Typ.cs ++ [[.int .i64 o[i].k,.str o[i].name,.int .i64 o[i].n,.sl (o[i].l.map Typ.cs)]]:=by
     rw [List.take_succ_eq_append_getElem hlt',List.map_append,List.map_cons,List.map_nil,Typ.cs_eq]
    have hki:=fun L=>hkids i hlt hlt' L
    ((try refine W.a ?_);simp only [go_sem,seval,h1])
    refine W.yes rfl (W.a ?_);simp only [go_sem,seval,h1,h0,hx,hw0]
    (refine W.c1 (hki _) ?_;simp only [go_sem,seval])
    ((try refine W.a ?_);simp only [go_sem,seval,hb1,hb2,hti,hw])
    refine .inv ⟨i + 1,hlt,by omega,?_⟩
    simp only [go_sem,seval,hts]
    (refine Lew.cutL (hok) ?_ (by simp) (by simp) ?_ ?_ ?_;exact lee_here;((try simp only [okB,wkB,go_sem,seval,hfl4]) <;> omega);(simp only [List.length_cons,List.length_nil,Nat.reduceAdd,List.take_succ_cons,List.take_zero,wkB,and_true];(repeat' (refine And.intro ?_ ?_)) <;> (first | exact Blk.wk.rfl _ | exact Blk.wk.gone _ | (refine Blk.wk_cells ?_ rfl;(exact wk_here))));(repeat' (first | exact LowE.base _ | (refine LowE.put ?_ (by first | exact .c _ | ((try simp only [okB,wkB,go_sem,seval,hfl4]) <;> omega))))))
   obtain rfl:i = t.l.length:=by omega
   have h1:¬ ((t.l.length:Nat):Int) < ((t.l.length:Nat):Int):=by omega
   have hta:o.take t.l.length = o:=by rw [← hol,List.take_length]
   rw [hta]
   ((try refine W.a ?_);simp only [go_sem,seval,h1])
   refine W.no rfl ?_
   skip)
  ·have hz':z = .mk t.k t.name t.n o:=by
    rw [hz,withM,if_neg (fun h=>by simp [h.1] at k6)]
   subst hz'
   ((try refine W.a ?_);simp only [go_sem,seval,k6])
   refine W.no rfl (W.a ?_);simp only [go_sem,seval]
   (refine W.fs (hok) (by simp only [r84,go_sem,seval];rfl) ?_;simp only [resV];try exact V.wk.rfl _)
   all_goals (all_goals exact wk_here)
  ·have h6:t.k = 6:=by simpa using k6
   by_cases c1:1 < o.length
   ·obtain ⟨o0,o1,rfl⟩:∃ a l,o = a :: l:=by
     cases o with
     | nil=>simp at c1
     | cons a l=>exact ⟨a,l,rfl⟩
    have hl0:0 < t.l.length:=by omega
    have hx:t.l[0]? = some t.l[0]:=List.getElem?_eq_getElem hl0
    have hhd:(t.l.headD .none) = t.l[0]:=by
     rw [List.headD_eq_head?_getD,List.head?_eq_getElem?,hx];rfl
    have q1:((o1.length + 1:Nat):Int) > 1:=by simp at c1;omega
    have h00:(0:Int) < ((o1.length + 1:Nat):Int):=by omega
    have hl00:(0:Int) < (t.l.length:Int):=by omega
    by_cases c2:o0.k = 6
    ·have p2:(o0.k == 6) = true:=by simp [c2]
     by_cases c3:t.l[0].k = 6
     ·have p3:(t.l[0].k == 6) = true:=by simp [c3]
      have hz':z = .mk t.k t.name t.n (o0 :: o1):=by
       rw [hz,withM,if_neg (fun h=>h.2.2.2 (by rw [hhd];exact c3))]
      subst hz';clear c3 c2 h6 hhd hz
      ((try refine W.a ?_);simp only [go_sem,seval,k6,q1,p2,p3,hx,nat0,bne,h00,hl00])
      refine W.no rfl (W.a ?_);simp only [go_sem,seval]
      (refine W.fs (hok) (by simp only [r84,go_sem,seval];rfl) ?_;simp only [resV];try exact V.wk.rfl _)
      all_goals (all_goals exact wk_here)
     ·have p3:(t.l[0].k == 6) = false:=by simp [c3]
      have hz':z = applyM o0 o1:=by
       rw [hz,withM,if_pos ⟨h6,c1,c2,by rw [hhd];exact c3⟩];rfl
      have hb:=hbig o0 (List.mem_cons_self ..)
      have hA:=fun σ=>term_Apply w0 o0 o1 (by simp at hol;omega) σ
      rw [← hz'] at hA;clear c3 c2 h6 hhd hz hz'
      have hrw:(∀ (x:List C),x ∈ List.map Typ.cs o1 → x.length = 4) ↔ True:=by
       simp only [List.mem_map,iff_true];rintro x ⟨u,_,rfl⟩;rw [Typ.cs_eq];rfl
      have hge:(1:Int) ≤ ((o1.length + 1:Nat):Int):=by omega
      have htk2:List.take o1.length (List.map Typ.cs o1) = List.map Typ.cs o1:=List.take_of_length_le (by simp)
      ((try refine W.a ?_);simp only [go_sem,seval,k6,q1,p2,p3,hx,nat0,bne,h00,hl00])
      refine W.yes rfl (W.a ?_);simp only [go_sem,seval];apply W.dregE (List.cons_ne_nil _ _)
      case hc=>
       (apply CanonE.advPO;simp only [go_sem,seval,nat0,h00,hrw,hge,htk2])
       (apply CanonE.call (hA _);(case hg=>rfl);(case hf=>rfl);(case ha=>first | rfl | simp))
       (apply CanonE.advPO;simp only [go_sem,seval])
       exact CanonE.nil
      ((try refine W.a ?_);simp only [go_sem,seval])
      (refine W.fs (hok) (by simp only [r84,go_sem,seval];rfl) ?_;simp only [resV];try exact V.wk.rfl _)
      all_goals (all_goals exact wk_here)
    ·have p2:(o0.k == 6) = false:=by simp [c2]
     have hz':z = .mk t.k t.name t.n (o0 :: o1):=by
      rw [hz,withM,if_neg (fun h=>c2 h.2.2.1)]
     subst hz';clear c2 h6 hhd hz
     ((try refine W.a ?_);simp only [go_sem,seval,k6,q1,p2,nat0,bne,h00,hl00])
     refine W.no rfl (W.a ?_);simp only [go_sem,seval]
     (refine W.fs (hok) (by simp only [r84,go_sem,seval];rfl) ?_;simp only [resV];try exact V.wk.rfl _)
     all_goals (all_goals exact wk_here)
   ·have q1:¬ ((o.length:Nat):Int) > 1:=by omega
    have hz':z = .mk t.k t.name t.n o:=by
     rw [hz,withM,if_neg (fun h=>c1 h.2.1)]
    subst hz';clear h6 hz
    ((try refine W.a ?_);simp only [go_sem,seval,k6,q1,bne])
    refine W.no rfl (W.a ?_);simp only [go_sem,seval]
    (refine W.fs (hok) (by simp only [r84,go_sem,seval];rfl) ?_;simp only [resV];try exact V.wk.rfl _)
    all_goals (all_goals exact wk_here)
 exact hst
end
section
attribute [local go_sem] Typ.v Typ.cs_eq tk_mk tname_mk tn_mk tl_mk tysC
theorem term_moved (w0:World) (t:Typ) (b:Int) (h1:-9223372036854775808 ≤ t.n + b) (h2:t.n + b ≤ 9223372036854775807) (σ:H):DC Tryz.prog w0 173 [t.v,I b] σ (Same (Typ.mk t.k t.name (t.n + b) t.l).v σ):=by
 refine k173.go rfl (fun hok hsz=>?_)
 have hw:IntKind.i64.wrap (t.n + b) = t.n + b:=by rw [wrap_in] <;> omega
 (refine W.a ?_;simp only [go_sem,seval,c173,hw])
 (refine W.fs (hok) (by simp only [r173,go_sem,seval];rfl) ?_;simp only [resV];try exact V.wk.rfl _)
 all_goals (all_goals exact wk_here)
theorem shift_leaf (w0:World) (a b:Int) (ha:0 ≤ a) (ha':a ≤ 30000000000) (hb:-1152921504606846976 ≤ b) (hb':b ≤ 1152921504606846976) (p:Nat) (σ:H) (e1:σ[p]? = some (.cells [I a])) (e2:σ[p + 1]? = some (.cells [I b])) (u:Typ) (j:Nat) (hj:j ≤ 30000000000) (hu:u.k = 3 → -2305843009213693952 ≤ u.n ∧ u.n ≤ 2305843009213693952) :
  DC Tryz.prog w0 172 [u.v,I (j:Int),.ptr p 0,.ptr (p + 1) 0] σ (Same (shiftF a b u (j:Int)).v σ):=by
 refine k172.go rfl (fun hok hsz=>?_)
 have e1:∀ L,(σ ++ L)[p]? = some (.cells [I a]):=fun L=>by rw [List.getElem?_append_left (List.getElem?_eq_some_iff.1 e1).1];exact e1
 have e2:∀ L,(σ ++ L)[p + 1]? = some (.cells [I b]):=fun L=>by rw [List.getElem?_append_left (List.getElem?_eq_some_iff.1 e2).1];exact e2
 have hw:IntKind.i64.wrap ((j:Int) + a) = (j:Int) + a:=by rw [wrap_in] <;> omega
 by_cases h3:u.k = 3
 ·have k3:(u.k == 3) = true:=by simp [h3]
  have hu:=hu h3
  by_cases hge:u.n ≥ (j:Int) + a
  ·have hE:shiftF a b u (j:Int) = .mk u.k u.name (u.n + b) u.l:=by unfold shiftF;rw [if_pos ⟨h3,hge⟩]
   have hM:=fun σ=>term_moved w0 u b (by omega) (by omega) σ
   rw [hE];clear h3 hE
   (refine W.a ?_;simp only [go_sem,seval,c172,k3,e1,e2,hw,hge])
   refine W.yes rfl (W.a ?_);simp only [go_sem,seval,e1,e2]
   (refine W.c1 (hM _) ?_;simp only [go_sem,seval])
   (refine W.a ?_;simp only [go_sem,seval])
   (refine W.fs (hok) (by simp only [r172,go_sem,seval];rfl) ?_;simp only [resV];try exact V.wk.rfl _)
   all_goals (all_goals exact wk_here)
  ·have hE:shiftF a b u (j:Int) = u:=by unfold shiftF;rw [if_neg (fun h=>hge h.2)]
   rw [hE];clear h3 hE
   (refine W.a ?_;simp only [go_sem,seval,c172,k3,e1,e2,hw,hge])
   refine W.no rfl (W.a ?_);simp only [go_sem,seval]
   (refine W.fs (hok) (by simp only [r172,go_sem,seval];rfl) ?_;simp only [resV];try exact V.wk.rfl _)
   all_goals (all_goals exact wk_here)
 ·have hE:shiftF a b u (j:Int) = u:=by unfold shiftF;rw [if_neg (fun h=>h3 h.1)]
  have k3:(u.k == 3) = false:=by simp [h3]
  rw [hE];clear h3 hE
  (refine W.a ?_;simp only [go_sem,seval,c172,k3])
  refine W.no rfl (W.a ?_);simp only [go_sem,seval]
  (refine W.fs (hok) (by simp only [r172,go_sem,seval];rfl) ?_;simp only [resV];try exact V.wk.rfl _)
  all_goals (all_goals exact wk_here)
theorem shift_R (w0:World) (a b:Int) (ha:0 ≤ a) (ha':a ≤ 30000000000) (hb:-1152921504606846976 ≤ b) (hb':b ≤ 1152921504606846976) (p:Nat) :
  LeafR w0 (fun σ=>σ[p]? = some (.cells [I a]) ∧ σ[p + 1]? = some (.cells [I b])) (fun u=>nearM 2305843009213693952 u = true ∧ nodesM u ≤ 12000000000) (shiftF a b) 172 [.ptr p 0,.ptr (p + 1) 0] where
 more:=fun σ L ⟨e1,e2⟩=>⟨by rw [List.getElem?_append_left (List.getElem?_eq_some_iff.1 e1).1];exact e1,by rw [List.getElem?_append_left (List.getElem?_eq_some_iff.1 e2).1];exact e2⟩
 low:=fun σ ⟨e1,e2⟩ x hx=>by
  have h1:=(List.getElem?_eq_some_iff.1 e1).1
  have h2:=(List.getElem?_eq_some_iff.1 e2).1
  simp only [List.mem_cons,List.not_mem_nil,or_false] at hx;rcases hx with rfl | rfl
  ·exact .ptr h1
  ·exact .ptr h2
 kid:=fun u ⟨h1,h2⟩ v hv=>⟨near_kids h1 v hv,by have:=nodesM_mem hv;omega⟩
 len:=fun u ⟨_,h2⟩=>Nat.le_trans (kids_nodes u) h2
 big:=fun u ⟨_,h2⟩ j=>by
  have h1:=nodesM_walk (g:=shiftF a b) (C:=1) (Nat.le_refl _) (fun v i _ _=>by
   unfold shiftF;split
   ·rw [nodesM_mk,nodesM_eq v];omega
   ·omega) u j
  have:=kids_nodes (walkM (shiftF a b) (j:Int) u)
  omega
 leaf:=fun σ ⟨e1,e2⟩ u j ⟨h1,_⟩ hj _ _=>shift_leaf w0 a b ha ha' hb hb' p σ e1 e2 u j hj (fun h3=>near_node h1 (by omega))
theorem term_Shift (w0:World) (t:Typ) (a b:Int) (ha:0 ≤ a) (ha':a ≤ 30000000000) (hb:-1152921504606846976 ≤ b) (hb':b ≤ 1152921504606846976) (hnr:nearM 2305843009213693952 t = true) (hn:nodesM t ≤ 12000000000) (σ:H):DC Tryz.prog w0 83 [t.v,I a,I b] σ (Same (shiftM a b t).v σ):=by
 refine k83.go rfl (fun hok hsz=>?_)
 have hw:=walk_term (shift_R w0 a b ha ha' hb hb' (σ.length + 1)) t ⟨hnr,hn⟩ 0 (by omega) (σ ++ [.cells t.v.cellsV,.cells [I a],.cells [I b],.cells [I 0,S [],I 0,.csl []]]) ⟨by simp,by rw [Nat.add_assoc];simp⟩
 have hz:shiftM a b t = walkM (shiftF a b) ((0:Nat):Int) t:=rfl
 rw [hz]
 generalize walkM (shiftF a b) ((0:Nat):Int) t = z at *
 (refine W.a ?_;simp only [go_sem,seval,c83])
 (refine W.c1 (hw) ?_;simp only [go_sem,seval])
 (refine W.a ?_;simp only [go_sem,seval])
 (refine W.fs (hok) (by simp only [r83,go_sem,seval];rfl) ?_;simp only [resV];try exact V.wk.rfl _)
 all_goals (all_goals exact wk_here)
end
end Go.Proofs.YtpcmcfajfnpjeaaGreatDoor
namespace Go.Proofs.YtpcmcfajfnpjeaaGreatDoor
open Go Go.RowKit Go.Lamb

structure Cla where
 vars:Int
 head:Typ
 body:Typ
 deriving Inhabited
def Cla.cs (c:Cla):List C:=[.int .i64 c.vars,.int .i64 c.head.k,.str c.head.name,.int .i64 c.head.n,.sl (c.head.l.map Typ.cs),.int .i64 c.body.k,.str c.body.name,.int .i64 c.body.n,.sl (c.body.l.map Typ.cs)]
def Cla.v (c:Cla):V:=.agg [I c.vars,I c.head.k,S c.head.name,I c.head.n,.c (.sl (c.head.l.map Typ.cs)),I c.body.k,S c.body.name,I c.body.n,.c (.sl (c.body.l.map Typ.cs))]
/-! ### how many constants -/
mutual
def constsM:Typ → Nat
 | .mk k _ _ l=>(if k = 0 then 1 else 0) + constsMs l
def constsMs:List Typ → Nat
 | []=>0
 | x :: l=>constsM x + constsMs l
end
theorem constsM_eq (t:Typ):constsM t = (if t.k = 0 then 1 else 0) + constsMs t.l:=by cases t;rw [constsM];rfl
theorem constsMs_app:∀ (a b:List Typ),constsMs (a ++ b) = constsMs a + constsMs b
 | [],b=>by rw [constsMs];simp
 | x :: l,b=>by rw [List.cons_append,constsMs,constsMs,constsMs_app l b];omega
theorem constsMs_mem:∀ {l:List Typ} {u:Typ},u ∈ l → constsM u ≤ constsMs l
 | x :: l,u,h=>by
   rw [constsMs];rcases List.mem_cons.1 h with rfl | h
   ·omega
   ·have:=constsMs_mem h;omega
mutual
theorem consts_nodes:∀ (t:Typ),constsM t ≤ nodesM t
 | .mk k _ _ l=>by
   rw [constsM,nodesM]
   have:=constss_nodes l
   split <;> omega
theorem constss_nodes:∀ (l:List Typ),constsMs l ≤ nodesMs l
 | []=>by rw [constsMs];omega
 | x :: l=>by
   rw [constsMs,nodesMs]
   have:=consts_nodes x
   have:=constss_nodes l
   omega
end
theorem shift_consts (a b:Int) (t:Typ):∀ k,validM t = true → constsM (walkM (shiftF a b) k t) = constsM t:=by
 refine Typ.ind (P:=fun t=>∀ k,validM t = true → constsM (walkM (shiftF a b) k t) = constsM t) (fun t ih k h=>?_) t
 have key:∀ j (l:List Typ),(∀ u ∈ l,u ∈ t.l) → constsMs (l.map (walkM (shiftF a b) j)) = constsMs l:=by
  intro j l
  induction l with
  | nil=>intro _;rfl
  | cons x l ihl=>
    intro hm
    have hx:=hm x (List.mem_cons_self ..)
    rw [List.map_cons,constsMs,constsMs,ih x hx j (valid_kids h x hx),ihl (fun u hu=>hm u (List.mem_cons_of_mem _ hu))]
 by_cases h5:t.k = 5
 ·rw [shift_lam k h h5,constsM,constsM_eq t,if_neg (by omega),if_neg (by omega),key _ t.l (fun _ h=>h)]
 ·by_cases h6:t.k = 6
  ·rw [shift_app k h h6,constsM,constsM_eq t,if_neg (by omega),if_neg (by omega),key _ t.l (fun _ h=>h)]
  ·rw [walkM_eq,if_neg h5,if_neg h6]
   unfold shiftF;split
   ·rw [constsM,constsM_eq t]
   ·rfl
/-! ### head and arguments; below an abstraction -/
def splitM (t:Typ):Typ × List Typ:=if t.k = 6 then (t.l.headD .none,t.l.tail) else (t,[])
def bound0:Typ:=.mk 3 [] 0 []
def bodyM (t:Typ):Typ:=if t.k = 5 then t.l.headD .none else applyM (shiftM 0 1 t) [bound0]
def argsM (nm:Str):Int:=if nm = [116,114,117,101] ∨ nm = [102,97,105,108] ∨ nm = [33] then 0 else if nm = [112,105] ∨ nm = [115,105,103,109,97] then 1 else 2
structure FitM (n d:Nat) (t:Typ):Prop where
 valid:validM t = true
 consts:constsM t < n
 nodes:nodesM t ≤ 300
 near:nearM (1099511627776 + d) t = true
theorem FitM.kid {n d:Nat} {t u:Typ} (h:FitM n d t) (hu:u ∈ t.l):FitM n d u:=by
 refine ⟨valid_kids h.valid u hu,?_,?_,near_kids h.near u hu⟩
 ·have h1:=constsM_eq t
  have h2:=constsMs_mem hu
  have:=h.consts
  omega
 ·have:=nodesM_mem hu
  have:=h.nodes
  omega
theorem FitM.more {n m d e:Nat} {t:Typ} (h:FitM n d t) (hn:n ≤ m) (hd:d ≤ e):FitM m e t:=
 ⟨h.valid,Nat.lt_of_lt_of_le h.consts hn,h.nodes,near_more (by omega) t h.near⟩
theorem FitM.arg {n d:Nat} {t u:Typ} (h:FitM (n + 1) d t) (h0:(splitM t).1.k = 0) (hu:u ∈ (splitM t).2):FitM n d u ∧ u ∈ t.l:=by
 unfold splitM at h0 hu
 by_cases h6:t.k = 6
 ·rw [if_pos h6] at h0 hu
  obtain ⟨_,_,a,b,l,hl,ha⟩:=valid_app h.valid h6;rw [hl] at h0 hu;simp only [List.headD_cons,List.tail_cons] at h0 hu
  have hm:u ∈ t.l:=by rw [hl];exact List.mem_cons_of_mem _ hu
  refine ⟨⟨valid_kids h.valid u hm,?_,(h.kid hm).nodes,near_kids h.near u hm⟩,hm⟩
  have h1:=constsM_eq t
  have h2:=constsMs_mem hu
  have h3:=constsM_eq a
  rw [if_pos h0] at h3;rw [hl,constsMs] at h1
  have:=h.consts
  omega
 ·rw [if_neg h6] at hu
  cases hu
theorem bodyM_fit {n d:Nat} {t:Typ} (h:FitM n d t) (hd:d ≤ 100000) (hn:nodesM t ≤ 298):FitM n (d + 1) (bodyM t) ∧ nodesM (bodyM t) ≤ nodesM t + 2:=by
 unfold bodyM
 by_cases h5:t.k = 5
 ·rw [if_pos h5]
  obtain ⟨_,_,b,hl⟩:=valid_lam h.valid h5
  have hm:b ∈ t.l:=by rw [hl];simp
  rw [hl,List.headD_cons]
  have:=nodesM_mem hm
  exact ⟨(h.kid hm).more (Nat.le_refl _) (Nat.le_succ _),by omega⟩
 ·rw [if_neg h5]
  have hs:=shift_valid (a:=0) (b:=1) (m:=1099511627776 + d) (by omega) (by omega) (by omega) (by omega) t 0 (by omega) h.valid h.near
  have hb:validM bound0 = true:=by decide
  have hbn:nearM (1099511627776 + (d:Int) + 1) bound0 = true:=near_of (.inr (by simp [bound0,tn_mk];omega)) (fun u hu=>by simp [bound0,tl_mk] at hu)
  have hsn:=shift_nodes 0 1 t 0
  have hsc:=shift_consts 0 1 t 0 h.valid
  have e:(walkM (shiftF 0 1) ((0:Nat):Int) t) = shiftM 0 1 t:=rfl
  rw [e] at hsn
  have e2:(walkM (shiftF 0 1) 0 t) = shiftM 0 1 t:=rfl
  rw [e2] at hsc hs
  have hnd:nodesM (applyM (shiftM 0 1 t) [bound0]) ≤ nodesM t + 2 ∧ constsM (applyM (shiftM 0 1 t) [bound0]) ≤ constsM t:=by
   rw [applyM_cons,nodesM_mk,constsM,nodesMs_app,constsMs_app]
   have a1:nodesMs [bound0] = 1:=by decide
   have a2:constsMs [bound0] = 0:=by decide
   rw [a1,a2];split
   ·have:=nodesM_eq (shiftM 0 1 t)
    have:=constsM_eq (shiftM 0 1 t)
    simp;omega
   ·have b1:nodesMs [shiftM 0 1 t] = nodesM (shiftM 0 1 t):=by rw [nodesMs,nodesMs];omega
    have b2:constsMs [shiftM 0 1 t] = constsM (shiftM 0 1 t):=by rw [constsMs,constsMs];omega
    rw [b1,b2];simp;omega
  refine ⟨⟨applyM_valid hs.1 (fun u hu=>by simp at hu;rw [hu];exact hb),by have:=h.consts;omega,by omega,?_⟩,hnd.1⟩
  have:=applyM_near (m:=1099511627776 + (d:Int) + 1) (args:=[bound0]) (by omega) hs.2 (fun u hu=>by simp at hu;rw [hu];exact hbn)
  rwa [Int.add_assoc] at this
/-! ### heads' arguments -/
def distM (k:Int) (seen:List Int):List Typ → Bool
 | []=>true
 | t :: l=>if t.k = 3 ∧ t.n < k ∧ seen.contains t.n = false then distM k (seen ++ [t.n]) l else false
mutual
def patM (k:Int):Typ → Bool
 | .mk kd nm n l=>if kd = 5 then (patsM (k + 1) l).headD true else if kd = 6 then (if (l.headD .none).k = 5 then false else if (l.headD .none).k = 4 ∨ ((l.headD .none).k = 3 ∧ (l.headD .none).n ≥ k) then distM k [] l.tail else (patsM k l).tail.all id) else true
def patsM (k:Int):List Typ → List Bool
 | []=>[]
 | x :: l=>patM k x :: patsM k l
end
theorem patsM_map (k:Int):∀ (l:List Typ),patsM k l = l.map (patM k)
 | []=>by rw [patsM];rfl
 | x :: l=>by rw [patsM,patsM_map k l];rfl
theorem patM_eq (k:Int) (t:Typ):patM k t = if t.k = 5 then (t.l.map (patM (k + 1))).headD true else if t.k = 6 then (if (t.l.headD .none).k = 5 then false else if (t.l.headD .none).k = 4 ∨ ((t.l.headD .none).k = 3 ∧ (t.l.headD .none).n ≥ k) then distM k [] t.l.tail else (t.l.map (patM k)).tail.all id) else true:=by
 cases t
 rw [patM,patsM_map,patsM_map]
 rfl
theorem patM_lam {k:Int} {t b:Typ} {l:List Typ} (h5:t.k = 5) (hl:t.l = b :: l):patM k t = patM (k + 1) b:=by
 rw [patM_eq,if_pos h5,hl];rfl
theorem patM_app {k:Int} {t a:Typ} {l:List Typ} (h6:t.k = 6) (hl:t.l = a :: l):patM k t = if a.k = 5 then false else if a.k = 4 ∨ (a.k = 3 ∧ a.n ≥ k) then distM k [] l else l.all (patM k):=by
 rw [patM_eq,if_neg (by omega),if_pos h6,hl]
 simp [List.all_map]
theorem patM_leaf {k:Int} {t:Typ} (h5:t.k ≠ 5) (h6:t.k ≠ 6):patM k t = true:=by
 rw [patM_eq,if_neg h5,if_neg h6]
/-! ### goals that came, as one -/
def comma:Typ:=.mk 0 [44] 0 []
def trueT:Typ:=.mk 0 [116,114,117,101] 0 []
def andM (b g:Typ):Typ:=.mk 6 [] 0 [comma,b,g]
theorem andM_apply (b g:Typ):applyM comma [b,g] = andM b g:=by rw [applyM_plain (by decide)];rfl
def andsM:List Typ → Typ
 | []=>.mk 0 [] 0 []
 | g :: l=>l.foldl andM g
theorem andsM_snoc (l:List Typ) (g:Typ):andsM (l ++ [g]) = if l = [] then g else andM (andsM l) g:=by
 cases l with
 | nil=>rfl
 | cons x l=>simp [andsM,List.foldl_append]
theorem shift_and (k a b:Int) (x y:Typ):walkM (shiftF a b) k (andM x y) = andM (walkM (shiftF a b) k x) (walkM (shiftF a b) k y):=by
 have hc:walkM (shiftF a b) k comma = comma:=by
  rw [walkM_eq,if_neg (by decide),if_neg (by decide),shiftF,if_neg (fun h=>by have:=h.1;revert this;decide)]
 unfold andM
 rw [walkM_eq,if_neg (by simp [tk_mk]),if_pos (by simp [tk_mk]),tl_mk,List.map_cons,List.map_cons,List.map_cons,List.map_nil,hc,withM,if_neg]
 ·simp [tk_mk,tname_mk,tn_mk]
 ·rintro ⟨_,_,h1,_⟩
  simp [comma,tk_mk] at h1
theorem shift_ands (a b:Int) (l:List Typ):shiftM a b (andsM l) = andsM (l.map (shiftM a b)):=by
 cases l with
 | nil=>
   unfold shiftM;rw [List.map_nil,andsM,walkM_eq,if_neg (by simp [tk_mk]),if_neg (by simp [tk_mk]),shiftF,if_neg (fun h=>by have:=h.1;simp [tk_mk] at this)]
 | cons g l=>
   rw [List.map_cons]
   show shiftM a b (l.foldl andM g) = (l.map (shiftM a b)).foldl andM (shiftM a b g)
   induction l generalizing g with
   | nil=>rfl
   | cons x l ih=>
     rw [List.foldl_cons,List.map_cons,List.foldl_cons,ih]
     have h:=shift_and 0 a b g x
     unfold shiftM;rw [h]
def bodyOf (l:List Typ):Typ:=if l = [] then trueT else andsM l
/-! ### goals and clauses -/
def hd (t:Typ):Typ:=(splitM t).1
def ar (t:Typ) (i:Nat):Typ:=(splitM t).2.getD i .none
def goalS (G:Typ → Int) (K:Typ → Int) (t:Typ):Int:=
 if (hd t).k = 4 ∨ (hd t).k = 3 then 133
 else if (hd t).k ≠ 0 then 130
 else if logicalB (hd t).name = false then 0
 else if ((splitM t).2.length:Int) ≠ argsM (hd t).name then 130
 else if (hd t).name = [58,45] then 130
 else if (hd t).name = [44] ∨ (hd t).name = [59] then (if G (ar t 0) ≠ 0 then G (ar t 0) else G (ar t 1))
 else if (hd t).name = [61,62] then (if K (ar t 0) ≠ 0 then K (ar t 0) else G (ar t 1))
 else if (hd t).name = [112,105] ∨ (hd t).name = [115,105,103,109,97] then G (bodyM (ar t 0))
 else 0
def claS (G:Typ → Int) (K:Int → Typ → List Typ → List Cla × Int) (any:Bool) (vars:Int) (t:Typ) (goals:List Typ):List Cla × Int:=
 if (hd t).k = 4 ∨ (hd t).k = 3 then ([],131)
 else if (hd t).k ≠ 0 then ([],130)
 else if logicalB (hd t).name = false then (if any = false ∧ (splitM t).2.all (patM 0) = false then ([],132) else ([⟨vars,t,bodyOf goals⟩],0))
 else if ((splitM t).2.length:Int) ≠ argsM (hd t).name then ([],130)
 else if (hd t).name = [44] then (if (K vars (ar t 0) goals).2 ≠ 0 then K vars (ar t 0) goals else ((K vars (ar t 0) goals).1 ++ (K vars (ar t 1) goals).1,(K vars (ar t 1) goals).2))
 else if (hd t).name = [112,105] then K (vars + 1) (bodyM (ar t 0)) (goals.map (shiftM 0 1))
 else if (hd t).name = [58,45] then (if G (ar t 1) ≠ 0 then ([],G (ar t 1)) else K vars (ar t 0) (goals ++ [ar t 1]))
 else if (hd t).name = [61,62] then (if G (ar t 0) ≠ 0 then ([],G (ar t 0)) else K vars (ar t 1) (goals ++ [ar t 0]))
 else ([],131)
def clF:Nat → (Typ → Int) × (Bool → Int → Typ → List Typ → List Cla × Int)
 | 0=>(fun _=>0,fun _ _ _ _=>([],0))
 | n + 1=>(goalS (clF n).1 (fun t=>((clF n).2 false 0 t []).2),fun any=>claS (clF n).1 ((clF n).2 any) any)
def clsM (any:Bool) (vars:Int) (t:Typ):List Cla × Int:=if ((clF 400).2 any vars t []).2 = 0 then (clF 400).2 any vars t [] else ([],((clF 400).2 any vars t []).2)

theorem hd_args {n d:Nat} {t:Typ} (h:FitM (n + 1) d t) (h0:(hd t).k = 0) (i:Nat) (hi:i < (splitM t).2.length):FitM n d (ar t i) ∧ ar t i ∈ t.l:=by
 have e:ar t i = (splitM t).2[i]:=by
  unfold ar;rw [List.getD_eq_getElem?_getD,List.getElem?_eq_getElem hi,Option.getD_some]
 rw [e]
 exact h.arg h0 (List.getElem_mem hi)
theorem argsM_two {nm:Str} (h:nm = [44] ∨ nm = [59] ∨ nm = [61,62] ∨ nm = [58,45]):argsM nm = 2:=by
 rcases h with rfl | rfl | rfl | rfl <;> rfl
theorem argsM_one {nm:Str} (h:nm = [112,105] ∨ nm = [115,105,103,109,97]):argsM nm = 1:=by
 rcases h with rfl | rfl <;> rfl
theorem args_in {n d:Nat} {t:Typ} {m:Nat} (h:FitM (n + 1) d t) (h0:(hd t).k = 0) (hl:¬ ((splitM t).2.length:Int) ≠ argsM (hd t).name) (ha:argsM (hd t).name = (m:Nat)) (i:Nat) (hi:i < m):FitM n d (ar t i) ∧ ar t i ∈ t.l:=
 hd_args h h0 i (by omega)
theorem arg_nodes {t:Typ} (hv:validM t = true) (i:Nat) (hi:i < (splitM t).2.length):nodesM (ar t i) + 2 ≤ nodesM t:=by
 have e:ar t i = (splitM t).2[i]:=by
  unfold ar;rw [List.getD_eq_getElem?_getD,List.getElem?_eq_getElem hi,Option.getD_some]
 have hm:ar t i ∈ (splitM t).2:=by rw [e];exact List.getElem_mem hi
 unfold splitM at hm
 by_cases h6:t.k = 6
 ·rw [if_pos h6] at hm
  obtain ⟨_,_,a,b,l,hl,ha⟩:=valid_app hv h6;rw [hl] at hm
  have h1:=nodesMs_mem (show ar t i ∈ b :: l from hm)
  have h2:=nodesM_eq t
  rw [hl,nodesMs] at h2
  have:=nodesM_pos a
  omega
 ·rw [if_neg h6] at hm;cases hm
/-! ### two, side by side; below a pi; with a goal -/
def lamT (t:Typ):Typ:=.mk 5 [] 0 [t]
structure Small (t:Typ):Prop where
 valid:validM t = true
 nodes:nodesM t ≤ 80
 near:nearM 1099511627776 t = true
theorem Small.fit {t:Typ} (h:Small t):FitM 200 0 t:=⟨h.valid,by have:=consts_nodes t;have:=h.nodes;omega,by have:=h.nodes;omega,by simpa using h.near⟩
mutual
def absM (n k:Int):Typ → Typ
 | .mk kd nm m l=>if kd = 4 then (if m < n then .mk 3 [] (k + n - 1 - m) [] else .mk kd nm m l) else if kd = 3 then (if m ≥ k then .mk kd nm (m + n) l else .mk kd nm m l) else if kd = 5 then .mk kd nm m (absMs n (k + 1) l) else if kd = 6 then .mk kd nm m (absMs n k l) else .mk kd nm m l
def absMs (n k:Int):List Typ → List Typ
 | []=>[]
 | x :: l=>absM n k x :: absMs n k l
end
theorem absMs_map (n k:Int):∀ (l:List Typ),absMs n k l = l.map (absM n k)
 | []=>by rw [absMs];rfl
 | x :: l=>by rw [absMs,absMs_map n k l];rfl
theorem absM_eq (n k:Int) (t:Typ):absM n k t = if t.k = 4 then (if t.n < n then .mk 3 [] (k + n - 1 - t.n) [] else t) else if t.k = 3 then (if t.n ≥ k then .mk t.k t.name (t.n + n) t.l else t) else if t.k = 5 then .mk t.k t.name t.n (t.l.map (absM n (k + 1))) else if t.k = 6 then .mk t.k t.name t.n (t.l.map (absM n k)) else t:=by
 cases t
 rw [absM,absMs_map,absMs_map]
 rfl
theorem absM_app (n k:Int) (t:Typ):(absM n k t).k = 6 ↔ t.k = 6:=by
 rw [absM_eq]
 split
 ·rename_i h
  split
  ·simp [tk_mk,h]
  ·rfl
 ·split
  ·split <;> rfl
  ·split
   ·rfl
   ·split <;> rfl
theorem absM_fit {n m:Int} (hn:0 ≤ n) (hn':n ≤ 4096) (hm:0 ≤ m) (hm':m ≤ 1099511628776) (t:Typ):∀ k:Nat,k + nodesM t ≤ 1000 → validM t = true → nearM m t = true → validM (absM n k t) = true ∧ nearM (m + 6000) (absM n k t) = true ∧ nodesM (absM n k t) = nodesM t ∧ constsM (absM n k t) = constsM t:=by
 refine Typ.ind (P:=fun t=>∀ k:Nat,k + nodesM t ≤ 1000 → validM t = true → nearM m t = true → validM (absM n k t) = true ∧ nearM (m + 6000) (absM n k t) = true ∧ nodesM (absM n k t) = nodesM t ∧ constsM (absM n k t) = constsM t) (fun t ih k hk hv hnr=>?_) t
 have hp:=nodesM_pos t
 have key:∀ (j:Nat) (l:List Typ),j ≤ k + 1 → (∀ u ∈ l,u ∈ t.l) → (∀ u ∈ l.map (absM n j),validM u = true ∧ nearM (m + 6000) u = true) ∧ nodesMs (l.map (absM n j)) = nodesMs l ∧ constsMs (l.map (absM n j)) = constsMs l:=by
  intro j l hj
  induction l with
  | nil=>intro _;exact ⟨fun u hu=>(by cases hu),rfl,rfl⟩
  | cons x l ihl=>
    intro hs
    have hx:=hs x (List.mem_cons_self ..)
    have hxn:=nodesM_mem hx
    obtain ⟨a1,a2,a3,a4⟩:=ih x hx j (by omega) (valid_kids hv x hx) (near_kids hnr x hx)
    obtain ⟨b1,b2,b3⟩:=ihl (fun u hu=>hs u (List.mem_cons_of_mem _ hu))
    rw [List.map_cons];refine ⟨fun u hu=>?_,by rw [nodesMs,nodesMs,a3,b2],by rw [constsMs,constsMs,a4,b3]⟩
    rcases List.mem_cons.1 hu with rfl | hu
    ·exact ⟨a1,a2⟩
    ·exact b1 u hu
 have hnode:=valid_node hv
 rw [absM_eq]
 by_cases h4:t.k = 4
 ·rw [if_pos h4]
  split
  ·rename_i hlt
   have hl:=valid_leaf hv (by omega) (by omega)
   have h0:0 ≤ t.n:=by unfold nodeM at hnode;simp [h4] at hnode;exact hnode.1.1.1
   have hnr2:=near_node hnr (by omega)
   refine ⟨valid_of ?_ (fun u hu=>by simp [tl_mk] at hu),near_of (.inr (by rw [tn_mk];omega)) (fun u hu=>by simp [tl_mk] at hu),?_,?_⟩
   ·have q1:0 ≤ (k:Int) + n - 1 - t.n:=by omega
    have q2:(k:Int) + n - 1 - t.n ≤ 4611686018427387904:=by omega
    simp [nodeM,tk_mk,tn_mk,tl_mk,tname_mk,q1,q2];omega
   ·rw [nodesM_mk,nodesM_eq t,hl]
   ·rw [constsM,constsM_eq t,hl,h4];rfl
  ·exact ⟨hv,near_more (by omega) t hnr,rfl,rfl⟩
 rw [if_neg h4]
 by_cases h3:t.k = 3
 ·rw [if_pos h3]
  split
  ·rename_i hge
   have hl:=valid_leaf hv (by omega) (by omega)
   have hnr2:=near_node hnr (by omega)
   have hq:t.name = [] ∧ 0 ≤ t.n:=by unfold nodeM at hnode;simp [h3] at hnode;exact ⟨hnode.1.2,hnode.1.1.1⟩
   refine ⟨valid_of ?_ (fun u hu=>by rw [tl_mk,hl] at hu;cases hu),near_of (.inr (by rw [tn_mk];omega)) (fun u hu=>by rw [tl_mk,hl] at hu;cases hu),?_,?_⟩
   ·simp [nodeM,tk_mk,tn_mk,tl_mk,tname_mk,h3,hq.1,hl];omega
   ·rw [nodesM_mk,nodesM_eq t]
   ·rw [constsM,constsM_eq t]
  ·exact ⟨hv,near_more (by omega) t hnr,rfl,rfl⟩
 rw [if_neg h3]
 by_cases h5:t.k = 5
 ·rw [if_pos h5]
  obtain ⟨e1,e2,b,hl⟩:=valid_lam hv h5;obtain ⟨c1,c2,c3⟩:=key (k + 1) t.l (Nat.le_refl _) (fun _ h=>h)
  have e:((k:Int) + 1) = ((k + 1:Nat):Int):=by omega
  rw [e,h5,e1,e2];refine ⟨?_,near_of (.inr (by rw [tn_mk];omega)) (fun u hu=>(c1 u hu).2),by rw [nodesM_mk,nodesM_eq t,c2],by rw [constsM,constsM_eq t,c3,h5]⟩
  rw [hl] at c1 ⊢;exact valid_mkLam (c1 _ (by simp)).1
 rw [if_neg h5]
 by_cases h6:t.k = 6
 ·rw [if_pos h6]
  obtain ⟨e1,e2,a,b,l,hl,ha⟩:=valid_app hv h6;obtain ⟨c1,c2,c3⟩:=key k t.l (Nat.le_succ _) (fun _ h=>h)
  rw [h6,e1,e2];refine ⟨?_,near_of (.inr (by rw [tn_mk];omega)) (fun u hu=>(c1 u hu).2),by rw [nodesM_mk,nodesM_eq t,c2],by rw [constsM,constsM_eq t,c3,h6]⟩
  rw [hl] at c1 ⊢;exact valid_mkApp (fun e=>ha ((absM_app n k a).1 e)) (fun u hu=>(c1 u hu).1)
 ·rw [if_neg h6]
  exact ⟨hv,near_more (by omega) t hnr,rfl,rfl⟩
def topM (n:Int) (t:Typ):List Cla × Int:=clsM false (max n 0) (absM (max n 0) 0 t)
theorem Small.abs {t:Typ} (h:Small t) {n:Int} (hn:n ≤ 4096):FitM 400 6000 (absM (max n 0) 0 t):=by
 obtain ⟨a1,a2,a3,a4⟩:=absM_fit (n:=max n 0) (m:=1099511627776) (by omega) (by omega) (by omega) (by omega) t 0 (by have:=h.nodes;omega) h.valid h.near
 have h1:=consts_nodes t
 have h2:=h.nodes
 exact ⟨a1,by rw [show ((0:Nat):Int) = 0 from rfl] at a4;omega,by rw [show ((0:Nat):Int) = 0 from rfl] at a3;omega,a2⟩
end Go.Proofs.YtpcmcfajfnpjeaaGreatDoor
namespace Go.Lamb
open Go Go.RowKit
/-! ### values, as lines -/
theorem flat4_get {rows:List (List C)} (h:∀ r ∈ rows,r.length = 4) {i:Nat} (hi:i < rows.length):(rows.flatten.drop (i * 4)).take 4 = rows[i]:=by
 have h1:=rowsOf_get 4 rows.length rows.flatten i (by rw [rowsOf_length];exact hi)
 rw [← h1]
 have h2:=rowsOf_flat h
 simp only [h2]
theorem flat4_len {rows:List (List C)}:(∀ r ∈ rows,r.length = 4) → rows.flatten.length = rows.length * 4:=by
 induction rows with
 | nil=>intro _;rfl
 | cons r l ih=>
   intro h;rw [List.flatten_cons,List.length_append,ih (fun q hq=>h q (List.mem_cons_of_mem _ hq)),h r (List.mem_cons_self ..),List.length_cons]
   omega
theorem flat4_set {rows:List (List C)}:(∀ r ∈ rows,r.length = 4) → ∀ {i:Nat} (hi:i < rows.length) (y:List C),y.length = 4 → rows.flatten.take (i * 4) ++ y ++ rows.flatten.drop (i * 4 + 4) = (rows.set i y).flatten:=by
 induction rows with
 | nil=>intro _ i hi;simp at hi
 | cons r l ih=>
   intro h i hi y hy
   have hr:=h r (List.mem_cons_self ..)
   cases i with
   | zero=>
     rw [List.set_cons_zero,List.flatten_cons,List.flatten_cons,Nat.zero_mul,List.take_zero,List.nil_append,Nat.zero_add,← hr,List.drop_left]
   | succ i=>
     rw [List.set_cons_succ,List.flatten_cons,List.flatten_cons,← ih (fun q hq=>h q (List.mem_cons_of_mem _ hq)) (by simpa using hi) y hy]
     have e1:(i + 1) * 4 = r.length + i * 4:=by rw [hr];omega
     rw [e1,List.take_append,List.take_of_length_le (by omega),Nat.add_sub_cancel_left,Nat.add_assoc,List.drop_append,List.drop_of_length_le (by omega),Nat.add_sub_cancel_left,List.nil_append]
     simp only [List.append_assoc]
theorem rows4 (l:List Typ):∀ r ∈ l.map Typ.cs,r.length = 4:=fun r hr=>by
 obtain ⟨u,_,rfl⟩:=List.mem_map.1 hr
 rw [Typ.cs_eq];rfl
end Go.Lamb
namespace Go.Proofs.YtpcmcfajfnpjeaaGreatDoor
open Go.RowKit Go.Lamb
attribute [local go_sem] advO_skip advO_reg advO_seq advO_block advO_exit advO_endb advO_opsNil advO_ops advG_yes advG_no advG_none advS_some advS_none advO_cond advO_loop advO_dreg advO_ret advO_bad advO_inv advO_nil advO_zero wantedV Lamb.step ev_t ev_k put_some put_none argEnv popTo cellsAt V.cellsV V.rows V.sub V.toC toCs fillV bytesC byteRows appV rowsV boundV boundL binV binInt binStr eqC eqL V.isNil leaves V.leaf Ins.quiet Ins.pure List.getD_cons_zero List.getD_cons_succ List.getD_nil List.all_cons List.all_nil List.length_cons List.length_nil List.take_succ_cons List.take_zero List.drop_succ_cons List.drop_zero List.cons_append List.nil_append List.append_nil List.append_assoc List.map_cons List.map_nil List.getElem?_cons_zero List.getElem?_cons_succ List.length_append List.length_set hget0 hget hset0 hset hsets hgs0 hgs hss0 hss List.set_cons_zero List.set_cons_succ List.forall_mem_cons List.not_mem_nil false_implies implies_true Option.map_some Bool.and_true Bool.true_and Bool.not_not Bool.not_true Bool.not_false Bool.and_self Bool.or_true Bool.true_or Bool.or_false Bool.false_or Bool.and_false Bool.false_and Bool.false_eq_true beq_self_eq_true and_self and_true true_and if_true if_false Nat.zero_add Nat.add_zero Nat.le_refl Int.toNat_natCast decide_true decide_false beq_t beq_f List.length_map List.getElem?_map I S B opsC toksC OpT.v OpT.cs OpT.zero Tok.v Tok.cs Pre.v Pre.cs_eq k_mk name_mk n_mk l_mk pos_mk Pre.app applyL natCast0 natCast1 natCast2 AOp.o AOp.m AOp.f AOp.l AOp.d AOp.n AOp.x AOp.s AOp.k AOp.y AOp.z EOp.q low_c low_void low_any low_csl low_nilf low_ptr low_osl low_agg low_tup low_fn resEval advPO_nil advPO_loud advPO_quiet pL_yes pL_no pLS_some pLS_none pQ_yes pQ_no pQS_some pQS_loud eq_self Nat.sub_zero zK zT zF zS4
section
attribute [local go_sem] Typ.v Typ.cs_eq tk_mk tname_mk tn_mk tl_mk tysC rz_len rz_g0 rz_g rz_s0 rz_s rz_sb

theorem sizeTs_mem {x:Typ}:∀ {l:List Typ},x ∈ l → sizeT x ≤ sizeTs l
 | [],h=>by simp at h
 | y :: l,h=>by
   rw [sizeTs];rcases List.mem_cons.1 h with rfl | h
   ·omega
   ·have:=sizeTs_mem h;omega
def varB (n:Int):Blk:=.cells [I n]
attribute [local go_sem] varB
theorem ty_Vars1 (w0:World) (n v:Int) (σ:H) (b:Nat) (D:b < σ.length):DC Tryz.prog w0 263 [I v,.ptr b 0] (rz σ b (varB n)) (Same Typ.none.v (rz σ b (varB (varMax n v)))):=by
 refine k263.go rfl (fun hok hsz=>?_)
 have hokv:H.ok (rz σ b (varB (varMax n v))):=rz_ok D hok (fun cs tg hc x hx=>by
  unfold varB at hc;injection hc with hc _
  subst hc;simp only [List.mem_cons,List.not_mem_nil,or_false] at hx;subst hx;exact .c _)
 have e:Typ.none.v = .agg [I 0,S [],I 0,.c (.sl [])]:=rfl
 rw [e]
 unfold varMax at hokv ⊢
 (refine W.a ?_;simp only [go_sem,seval,c263,rzA D])
 (refine W.fg (hokv) (d:=.agg [I 0,S [],I 0,.c (.sl [])]) (by simp only [r263,go_sem,seval];rfl) (by simp only [resV,go_sem,seval];exact wk_here) ?_)
 exact ⟨rfl,rfl⟩
theorem varB_ok {σ:H} {b:Nat} (D:b < σ.length) {X:Blk} (h:H.ok (rz σ b X)) (n:Int):H.ok (rz σ b (varB n)):=rz_ok D h (fun cs tg hc x hx=>by
 unfold varB at hc
 injection hc with hc _
 subst hc
 simp only [List.mem_cons,List.not_mem_nil,or_false] at hx
 subst hx;exact .c _)
theorem sizeT_pos (p:Typ):1 ≤ sizeT p:=by rw [sizeT_eq];split <;> omega
theorem len_size:∀ l:List Typ,l.length ≤ sizeTs l
 | []=>by simp
 | x :: l=>by rw [sizeTs,List.length_cons];have:=len_size l;have:=sizeT_pos x;omega
theorem ty_replaceV (w0:World) (p:Typ):sizeT p ≤ 1000000 → ∀ (n:Int) (σ:H) (b:Nat) (D:b < σ.length),DC Tryz.prog w0 259 [p.v,.fn 263 [.ptr b 0]] (rz σ b (varB n)) (Same (noneT p).v (rz σ b (varB (varsT n p)))):=by
 refine Typ.ind (P:=fun p=>sizeT p ≤ 1000000 → ∀ (n:Int) (σ:H) (b:Nat) (D:b < σ.length),DC Tryz.prog w0 259 [p.v,.fn 263 [.ptr b 0]] (rz σ b (varB n)) (Same (noneT p).v (rz σ b (varB (varsT n p))))) (fun p ih hb n σ b D=>?_) p
 refine k259.go rfl (fun hok hsz=>?_)
 have hlen:=typ_len hsz (List.mem_cons_self ..)
 rw [noneT_eq,varsT_eq]
 by_cases hk:p.k = 1
 ·have n1:(p.k == 1) = true:=by simpa using hk
  rw [if_pos hk,if_pos hk]
  (refine W.a ?_;simp only [go_sem,seval,c259,n1,rzA D])
  refine W.yes rfl (W.a ?_);simp only [go_sem,seval,rzA D]
  (refine W.c1 (DC.lift1 D (fun D'=>ty_Vars1 w0 n p.n _ b D')) ?_;simp only [go_sem,seval,rzA D,Typ.none])
  (refine W.fg (varB_ok D hok (varMax n p.n)) (d:=Typ.none.v) (by simp only [r259,go_sem,seval,Typ.none];rfl) (by simp only [resV,go_sem,seval,Typ.none];exact wk_here) ?_ (hl:=by (first | exact .c _ | (simp only [go_sem,seval,Typ.none];done))))
  exact ⟨rfl,rfl⟩
 ·have n1:(p.k == 1) = false:=by simpa using hk
  rw [if_neg hk,if_neg hk]
  (refine W.a ?_;simp only [go_sem,seval,c259,n1,rzA D])
  refine W.no rfl (W.a ?_);simp only [go_sem,seval,rzA D]
  have hls:=len_size p.l
  have hbs:sizeTs p.l ≤ 1000000:=by rw [sizeT_eq,if_neg hk] at hb;omega
  cases hA:arrowT p
  ·(refine W.c1 (ty_arrow w0 p _) ?_;simp only [go_sem,seval,hA,rzA D])
   refine W.no rfl (W.a ?_);simp only [go_sem,seval,rzA D];refine W.ownCell (σ.length + 2) 3 48 4 (cs:=[I 0,S p.name,I 0,.csl []]) (tg:=none) ?_ rfl ?_
   ·simp only [rz_g,List.getElem?_cons_succ,List.getElem?_cons_zero,I,S]
   ·(refine W.a ?_;simp only [go_sem,seval,rzA D])
    refine W.loopP (fun i=>i ≤ p.l.length) (fun i=>⟨((((((base.put (some 1) (.fn 263 [.ptr b 0])).put (some 4) (.ptr (σ.length + 1) 0)).put (some 5) (.ptr (σ.length + 2) 0)).put (some 22) (.c (tysC p.l))).put (some 23) (I p.l.length)).put (some 24) (I i)),rz σ b (varB (varsTs n (p.l.take i))) ++ [.cells p.v.cellsV,.cells [I 0,S [],I 0,.csl []],.cells [I 0,S p.name,I 0,.osl (σ.length + 3) (((p.l.take i).map noneT).map Typ.cs)],.spare 48 4 i]⟩) (fun i=>p.l.length - i) 0 (Nat.zero_le _) ?_ (fun i hi=>?_)
    ·simp only [go_sem,seval,List.take_zero,varsTs]
     (refine Lew.env ?_;exact lee_here)
    ·by_cases hlt:i < p.l.length
     ·have h1:((i:Int) < (p.l.length:Int)):=by omega
      have hx:p.l[i]? = some p.l[i]:=List.getElem?_eq_getElem hlt
      have hw:=wrap_next hlt hlen
      have htk:p.l.take (i + 1) = p.l.take i ++ [p.l[i]]:=List.take_succ_eq_append_getElem hlt
      have hvt:varsTs n (p.l.take (i + 1)) = varsT (varsTs n (p.l.take i)) p.l[i]:=by rw [htk,varsTs_add,varsTs,varsTs]
      have hb1:(i + 1) * 56 ≤ 140737488355328:=by omega
      have hb2:i + 1 ≤ 140737488355328:=by omega
      have hlk:(p.l.take i).length = i:=by rw [List.length_take];omega
      have hsz':sizeT p.l[i] ≤ 1000000:=Nat.le_trans (sizeTs_mem (List.getElem_mem hlt)) (by omega)
      (refine W.a ?_;simp only [go_sem,seval,h1,rzA D])
      refine W.yes rfl (W.a ?_);simp only [go_sem,seval,h1,nat0,hx,rzA D];apply W.dregE (List.cons_ne_nil _ _)
      case hc=>
       (apply CanonE.advPO;simp only [go_sem,seval,rzA D])
       (apply CanonE.call (DC.lift1 D (fun D'=>ih p.l[i] (List.getElem_mem hlt) hsz' (varsTs n (p.l.take i)) _ b D'));(case hg=>rfl);(case hf=>rfl);(case ha=>first | rfl | simp))
       (apply CanonE.advPO;simp only [go_sem,seval,rzA D,hb1,hb2,hlk])
       exact CanonE.nil
      (refine W.a ?_;simp only [go_sem,seval,hw,rzA D])
      refine .inv ⟨i + 1,hlt,by omega,?_⟩
      rw [hvt,htk];simp only [go_sem,seval,List.map_append]
      (refine Lew.cutL (varB_ok D hok (varsT (varsTs n (p.l.take i)) p.l[i])) ?_ (by simp) (by simp) ?_ ?_ ?_;exact lee_here;((try simp only [okB,wkB,go_sem,seval,rz_len]) <;> omega);(simp only [List.length_cons,List.length_nil,Nat.reduceAdd,List.take_succ_cons,List.take_zero,wkB,and_true];(repeat' (refine And.intro ?_ ?_)) <;> (first | exact Blk.wk.rfl _ | exact Blk.wk.gone _ | (refine Blk.wk_cells ?_ rfl;(exact wk_here))));(repeat' (first | exact LowE.base _ | (refine LowE.put ?_ (by first | exact .c _ | ((try simp only [okB,wkB,go_sem,seval,rz_len]) <;> omega))))))
     ·have h1:¬ ((i:Int) < (p.l.length:Int)):=by omega
      have:p.l.take i = p.l:=List.take_of_length_le (by omega)
      (refine W.a ?_;simp only [go_sem,seval,h1,rzA D])
      refine W.no rfl ?_;rw [this]
      (refine W.a ?_;simp only [go_sem,seval,rzA D])
      (refine W.fg (varB_ok D hok (varsTs n p.l)) (d:=.agg [I 0,S p.name,I 0,.c (.sl ((p.l.map noneT).map Typ.cs))]) (by simp only [r259,go_sem,seval];rfl) (by simp only [resV,go_sem,seval];exact wk_here) ?_)
      exact ⟨rfl,rfl⟩
  ·(refine W.c1 (ty_arrow w0 p _) ?_;simp only [go_sem,seval,hA,rzA D])
   refine W.yes rfl (W.a ?_);simp only [go_sem,seval,rzA D];refine W.ownCell (σ.length + 2) 3 48 4 (cs:=[I 2,S [],I 0,.csl []]) (tg:=none) ?_ rfl ?_
   ·simp only [rz_g,List.getElem?_cons_succ,List.getElem?_cons_zero,I,S]
   ·(refine W.a ?_;simp only [go_sem,seval,rzA D])
    refine W.loopP (fun i=>i ≤ p.l.length) (fun i=>⟨((((((base.put (some 1) (.fn 263 [.ptr b 0])).put (some 4) (.ptr (σ.length + 1) 0)).put (some 5) (.ptr (σ.length + 2) 0)).put (some 22) (.c (tysC p.l))).put (some 23) (I p.l.length)).put (some 24) (I i)),rz σ b (varB (varsTs n (p.l.take i))) ++ [.cells p.v.cellsV,.cells [I 0,S [],I 0,.csl []],.cells [I 2,S [],I 0,.osl (σ.length + 3) (((p.l.take i).map noneT).map Typ.cs)],.spare 48 4 i]⟩) (fun i=>p.l.length - i) 0 (Nat.zero_le _) ?_ (fun i hi=>?_)
    ·simp only [go_sem,seval,List.take_zero,varsTs]
     (refine Lew.env ?_;exact lee_here)
    ·by_cases hlt:i < p.l.length
     ·have h1:((i:Int) < (p.l.length:Int)):=by omega
      have hx:p.l[i]? = some p.l[i]:=List.getElem?_eq_getElem hlt
      have hw:=wrap_next hlt hlen
      have htk:p.l.take (i + 1) = p.l.take i ++ [p.l[i]]:=List.take_succ_eq_append_getElem hlt
      have hvt:varsTs n (p.l.take (i + 1)) = varsT (varsTs n (p.l.take i)) p.l[i]:=by rw [htk,varsTs_add,varsTs,varsTs]
      have hb1:(i + 1) * 56 ≤ 140737488355328:=by omega
      have hb2:i + 1 ≤ 140737488355328:=by omega
      have hlk:(p.l.take i).length = i:=by rw [List.length_take];omega
      have hsz':sizeT p.l[i] ≤ 1000000:=Nat.le_trans (sizeTs_mem (List.getElem_mem hlt)) (by omega)
      (refine W.a ?_;simp only [go_sem,seval,h1,rzA D])
      refine W.yes rfl (W.a ?_);simp only [go_sem,seval,h1,nat0,hx,rzA D];apply W.dregE (List.cons_ne_nil _ _)
      case hc=>
       (apply CanonE.advPO;simp only [go_sem,seval,rzA D])
       (apply CanonE.call (DC.lift1 D (fun D'=>ih p.l[i] (List.getElem_mem hlt) hsz' (varsTs n (p.l.take i)) _ b D'));(case hg=>rfl);(case hf=>rfl);(case ha=>first | rfl | simp))
       (apply CanonE.advPO;simp only [go_sem,seval,rzA D,hb1,hb2,hlk])
       exact CanonE.nil
      (refine W.a ?_;simp only [go_sem,seval,hw,rzA D])
      refine .inv ⟨i + 1,hlt,by omega,?_⟩
      rw [hvt,htk];simp only [go_sem,seval,List.map_append]
      (refine Lew.cutL (varB_ok D hok (varsT (varsTs n (p.l.take i)) p.l[i])) ?_ (by simp) (by simp) ?_ ?_ ?_;exact lee_here;((try simp only [okB,wkB,go_sem,seval,rz_len]) <;> omega);(simp only [List.length_cons,List.length_nil,Nat.reduceAdd,List.take_succ_cons,List.take_zero,wkB,and_true];(repeat' (refine And.intro ?_ ?_)) <;> (first | exact Blk.wk.rfl _ | exact Blk.wk.gone _ | (refine Blk.wk_cells ?_ rfl;(exact wk_here))));(repeat' (first | exact LowE.base _ | (refine LowE.put ?_ (by first | exact .c _ | ((try simp only [okB,wkB,go_sem,seval,rz_len]) <;> omega))))))
     ·have h1:¬ ((i:Int) < (p.l.length:Int)):=by omega
      have:p.l.take i = p.l:=List.take_of_length_le (by omega)
      (refine W.a ?_;simp only [go_sem,seval,h1,rzA D])
      refine W.no rfl ?_;rw [this]
      (refine W.a ?_;simp only [go_sem,seval,rzA D])
      (refine W.fg (varB_ok D hok (varsTs n p.l)) (d:=.agg [I 2,S [],I 0,.c (.sl ((p.l.map noneT).map Typ.cs))]) (by simp only [r259,go_sem,seval];rfl) (by simp only [resV,go_sem,seval];exact wk_here) ?_)
      exact ⟨rfl,rfl⟩
theorem ty_Vars (w0:World) (p:Typ) (hb:sizeT p ≤ 1000000) (σ:H):DC Tryz.prog w0 190 [p.v] σ (Same (I (varsT 0 p)) σ):=by
 refine k190.go rfl (fun hok hsz=>?_)
 have hr:∀ m:Int,rz (σ ++ [.cells p.v.cellsV,varB 0]) (σ.length + 1) (varB m) = σ ++ [.cells p.v.cellsV,varB m]:=fun m=>by
  unfold rz;rw [List.set_append_right _ _ (by omega)]
  simp [Nat.add_sub_cancel_left]
 have hc:=ty_replaceV w0 p hb 0 (σ ++ [.cells p.v.cellsV,varB 0]) (σ.length + 1) (by simp)
 rw [hr,hr] at hc
 (refine W.a ?_;simp only [go_sem,seval,c190])
 (refine W.c1 (hc) ?_;simp only [go_sem,seval])
 (refine W.fs (hok) (by simp only [r190,go_sem,seval];rfl) ?_;simp only [resV];try exact V.wk.rfl _)
end
section

section
variable {τ:Nat → H}
theorem at_g0 {σ:H} {N:Nat} (h:σ.length = N) (x:Blk) (L:H):(σ ++ x :: L)[N]? = some x:=by subst h;exact hget0 σ (x :: L)
theorem at_g {σ:H} {N:Nat} (h:σ.length = N) (k:Nat) (L:H):(σ ++ L)[N + k]? = L[k]?:=by subst h;exact hget σ L k
theorem at_s0 {σ:H} {N:Nat} (h:σ.length = N) (x:Blk) (L:H):(σ ++ L).set N x = σ ++ L.set 0 x:=by subst h;exact hset0 σ L x
theorem at_s {σ:H} {N:Nat} (h:σ.length = N) (k:Nat) (x:Blk) (L:H):(σ ++ L).set (N + k) x = σ ++ L.set k x:=by subst h;exact hset σ L k x
end
attribute [local go_sem] Typ.v Typ.cs_eq tk_mk tname_mk tn_mk tl_mk tysC
end
section
attribute [local go_sem] Typ.v Typ.cs_eq tk_mk tname_mk tn_mk tl_mk tysC

end
section
section
theorem clone_tmV (w0:World) (l:List (List C)) (hl0:l ≠ []) (hb3:∀ r ∈ l,r.length = 4) (hn:l.length ≤ 1000000) (σ:H):DC Tryz.prog w0 174 [.c (.sl l)] σ (Same (.vec σ.length l.length) (σ ++ [.vec 30 4 l.flatten])):=by
 refine k174.goN rfl (fun hok hsz=>?_)
 have hb1:l.length * 56 ≤ 140737488355328:=by omega
 have hb2:l.length ≤ 140737488355328:=by omega
 ((try refine W.a ?_);simp only [go_sem,seval,c174])
 refine W.opsFork rfl rfl rfl (fun b hb=>?_)
 cases b
 ·((try refine W.a ?_);simp only [go_sem,seval])
  refine W.no rfl ?_;refine W.skip (W.seq (W.reg (W.opsStep rfl rfl (W.opsStep rfl rfl ?_))))
  refine W.opsVec (olds:=[]) (news:=l) rfl rfl rfl rfl ⟨hl0,(fun r hr=>by cases hr),hb3,by simpa using hb1,by simpa using hb2⟩ ?_
  ((try refine W.a ?_);simp only [go_sem,seval,List.nil_append])
  refine W.ret ⟨_,_,rfl,.rfl _,?_⟩;exact ⟨rfl,rfl⟩
 ·exact absurd (hb rfl) hl0
end
section
attribute [local go_sem] Typ.v Typ.cs_eq tk_mk tname_mk tn_mk tl_mk tysC
end
end
section
def shapeM (flex:Int) (t:Typ):Str × List Typ × Int:=
 if (hd t).k = 4 ∨ (hd t).k = 3 then ([],[],flex)
 else if (hd t).k ≠ 0 then ([],[],130)
 else if logicalB (hd t).name = false then ([],(splitM t).2,0)
 else if ((splitM t).2.length:Int) ≠ argsM (hd t).name then ([],[],130)
 else ((hd t).name,(splitM t).2,0)
attribute [local go_sem] Typ.v Typ.cs_eq tk_mk tname_mk tn_mk tl_mk tysC
theorem clause_args (w0:World) (nm:Str) (σ:H):DC Tryz.prog w0 222 [S nm] σ (Same (I (argsM nm)) σ):=by
 refine k222.go rfl (fun hok hsz=>?_)
 unfold argsM
 by_cases h1:nm = [116,114,117,101]
 ·subst h1
  rw [if_pos (by decide)]
  ((try refine W.a ?_);simp only [go_sem,seval,c222])
  repeat (first | (refine W.yes rfl ?_;((try refine W.a ?_);simp only [go_sem,seval])) | (refine W.no rfl ?_;((try refine W.a ?_);simp only [go_sem,seval])))
  (refine W.fs (hok) (by simp only [r222,go_sem,seval];rfl) ?_;simp only [resV];try exact V.wk.rfl _)
 by_cases h2:nm = [102,97,105,108]
 ·subst h2
  rw [if_pos (by decide)]
  ((try refine W.a ?_);simp only [go_sem,seval,c222])
  repeat (first | (refine W.yes rfl ?_;((try refine W.a ?_);simp only [go_sem,seval])) | (refine W.no rfl ?_;((try refine W.a ?_);simp only [go_sem,seval])))
  (refine W.fs (hok) (by simp only [r222,go_sem,seval];rfl) ?_;simp only [resV];try exact V.wk.rfl _)
 by_cases h3:nm = [33]
 ·subst h3
  rw [if_pos (by decide)]
  ((try refine W.a ?_);simp only [go_sem,seval,c222])
  repeat (first | (refine W.yes rfl ?_;((try refine W.a ?_);simp only [go_sem,seval])) | (refine W.no rfl ?_;((try refine W.a ?_);simp only [go_sem,seval])))
  (refine W.fs (hok) (by simp only [r222,go_sem,seval];rfl) ?_;simp only [resV];try exact V.wk.rfl _)
 by_cases h4:nm = [112,105]
 ·subst h4
  rw [if_neg (by decide),if_pos (by decide)]
  ((try refine W.a ?_);simp only [go_sem,seval,c222])
  repeat (first | (refine W.yes rfl ?_;((try refine W.a ?_);simp only [go_sem,seval])) | (refine W.no rfl ?_;((try refine W.a ?_);simp only [go_sem,seval])))
  (refine W.fs (hok) (by simp only [r222,go_sem,seval];rfl) ?_;simp only [resV];try exact V.wk.rfl _)
 by_cases h5:nm = [115,105,103,109,97]
 ·subst h5
  rw [if_neg (by decide),if_pos (by decide)]
  ((try refine W.a ?_);simp only [go_sem,seval,c222])
  repeat (first | (refine W.yes rfl ?_;((try refine W.a ?_);simp only [go_sem,seval])) | (refine W.no rfl ?_;((try refine W.a ?_);simp only [go_sem,seval])))
  (refine W.fs (hok) (by simp only [r222,go_sem,seval];rfl) ?_;simp only [resV];try exact V.wk.rfl _)
 rw [if_neg (by simp [h1,h2,h3]),if_neg (by simp [h4,h5])]
 have k1:(nm == [116,114,117,101]) = false:=by simpa using h1
 have k2:(nm == [102,97,105,108]) = false:=by simpa using h2
 have k3:(nm == [33]) = false:=by simpa using h3
 have k4:(nm == [112,105]) = false:=by simpa using h4
 have k5:(nm == [115,105,103,109,97]) = false:=by simpa using h5
 clear h1 h2 h3 h4 h5
 ((try refine W.a ?_);simp only [go_sem,seval,c222,k1,k2,k3,k4,k5])
 repeat (first | (refine W.no rfl ?_;((try refine W.a ?_);simp only [go_sem,seval,k1,k2,k3,k4,k5])))
 (refine W.fs (hok) (by simp only [r222,go_sem,seval];rfl) ?_;simp only [resV];try exact V.wk.rfl _)
theorem split_leaf (w0:World) (t:Typ) (h6:t.k ≠ 6) (σ:H):DC Tryz.prog w0 220 [t.v] σ (Same (.tup [t.v,.c (.sl [])]) σ):=by
 refine k220.go rfl (fun hok hsz=>?_)
 have k6:(t.k == 6) = false:=by simp [h6]
 clear h6
 ((try refine W.a ?_);simp only [go_sem,seval,c220,bne,k6])
 refine W.yes rfl (W.a ?_)
 simp only [go_sem,seval]
 (refine W.fs (hok) (by simp only [r220,go_sem,seval];rfl) ?_;simp only [resV];try exact V.wk.rfl _)
 all_goals (all_goals exact wk_here)
theorem split_app (w0:World) (t a:Typ) (l:List Typ) (h6:t.k = 6) (hv:validM t = true) (hl:t.l = a :: l) (hl0:l ≠ []) (hn:l.length ≤ 1000000) (σ:H):DC Tryz.prog w0 220 [t.v] σ (Same (.tup [a.v,.c (.sl (l.map Typ.cs))]) σ):=by
 refine k220.go rfl (fun hok hsz=>?_)
 have k6:(t.k == 6) = true:=by simp [h6]
 have hV:=fun σ=>term_Valid w0 t σ
 rw [hv] at hV
 have hcl:=fun σ=>clone_tmV w0 (l.map Typ.cs) (by simpa using hl0) (rows4 l) (by rw [List.length_map];exact hn) σ
 rw [List.length_map] at hcl
 have hr:=rowsOf_flat (rows4 l)
 rw [List.length_map] at hr
 have hfl:=flat4_len (rows4 l)
 rw [List.length_map] at hfl
 have hall:=eq_true (rows4 t.l)
 have hx:t.l[0]? = some a:=by rw [hl];rfl
 have hlen:(0:Int) < (t.l.length:Int):=by rw [hl,List.length_cons];omega
 have hlen1:(1:Int) ≤ (t.l.length:Int):=by omega
 have hdr:List.take (t.l.length - 1) (List.drop 1 (List.map Typ.cs t.l)) = l.map Typ.cs:=by
  rw [hl,List.map_cons,List.drop_succ_cons,List.drop_zero,List.length_cons,Nat.add_sub_cancel,List.take_of_length_le (by simp)]
 clear hl h6 hv
 ((try refine W.a ?_);simp only [go_sem,seval,c220,bne,k6])
 (refine W.c1 (hV _) ?_;simp only [go_sem,seval])
 refine W.no rfl (W.a ?_)
 simp only [go_sem,seval]
 apply W.dregE (List.cons_ne_nil _ _)
 case hc=>
  (apply CanonE.advPO;simp only [go_sem,seval,hall,hlen1,hdr,hlen,hx])
  (apply CanonE.call (hcl _);(case hg=>rfl);(case hf=>rfl);(case ha=>first | rfl | simp))
  (apply CanonE.advPO;simp only [go_sem,seval,hall,hlen1,hdr,hlen,hx])
  exact CanonE.nil
 refine W.frzV (b:=σ.length + 2) (e:=30) (size:=4) (k:=l.length) (cs:=(l.map Typ.cs).flatten) 3 rfl ?_ (Nat.le_of_eq hfl.symm) ?_
 ·simp only [hget,List.getElem?_cons_succ,List.getElem?_cons_zero]
 ((try refine W.a ?_);simp only [go_sem,seval,hr])
 (refine W.fs (hok) (by simp only [r220,go_sem,seval];rfl) ?_;simp only [resV];try exact V.wk.rfl _)
 all_goals (all_goals exact wk_here)
theorem clause_Split (w0:World) (t:Typ) (hv:validM t = true) (hn:nodesM t ≤ 1000000) (σ:H):DC Tryz.prog w0 220 [t.v] σ (Same (.tup [(hd t).v,.c (.sl ((splitM t).2.map Typ.cs))]) σ):=by
 by_cases h6:t.k = 6
 ·obtain ⟨_,_,a,b,l,hl,ha⟩:=valid_app hv h6
  have e:splitM t = (a,b :: l):=by unfold splitM;rw [if_pos h6,hl];rfl
  unfold hd;rw [e]
  have:=kids_nodes t
  rw [hl] at this;exact split_app w0 t a (b :: l) h6 hv hl (by simp) (by simp only [List.length_cons] at this ⊢;omega) σ
 ·have e:splitM t = (t,[]):=by unfold splitM;rw [if_neg h6]
  unfold hd;rw [e];exact split_leaf w0 t h6 σ
theorem clause_Body (w0:World) (t:Typ) (hv:validM t = true) (hn:nodesM t ≤ 30000) (hr:nearM 2305843009213693952 t = true) (σ:H):DC Tryz.prog w0 126 [t.v] σ (Same (bodyM t).v σ):=by
 refine k126.go rfl (fun hok hsz=>?_)
 have hV:=fun σ=>term_Valid w0 t σ
 rw [hv] at hV
 by_cases h5:t.k = 5
 ·obtain ⟨_,_,b,hl⟩:=valid_lam hv h5
  have e:bodyM t = b:=by unfold bodyM;rw [if_pos h5,hl];rfl
  have k5:(t.k == 5) = true:=by simp [h5]
  have hx:t.l[0]? = some b:=by rw [hl];rfl
  have hlen:(0:Int) < (t.l.length:Int):=by rw [hl];simp
  rw [e];clear h5 e hl
  ((try refine W.a ?_);simp only [go_sem,seval,c126,k5])
  (refine W.c1 (hV _) ?_;simp only [go_sem,seval])
  refine W.no rfl (W.a ?_);simp only [go_sem,seval,k5];refine W.yes rfl (W.a ?_);simp only [go_sem,seval,hx,hlen]
  (refine W.fs (hok) (by simp only [r126,go_sem,seval];rfl) ?_;simp only [resV];try exact V.wk.rfl _)
  all_goals (all_goals exact wk_here)
 ·have k5:(t.k == 5) = false:=by simp [h5]
  have hS:=fun σ=>term_Shift w0 t 0 1 (by decide) (by decide) (by decide) (by decide) hr (by omega) σ
  have hsn:=shift_nodes 0 1 t 0
  have e0:walkM (shiftF 0 1) ((0:Nat):Int) t = shiftM 0 1 t:=rfl
  rw [e0] at hsn
  have hkn:=kids_nodes (shiftM 0 1 t)
  have hA:=fun σ=>term_Apply w0 (shiftM 0 1 t) [bound0] (by simp only [List.length_cons,List.length_nil];omega) σ
  have e:bodyM t = applyM (shiftM 0 1 t) [bound0]:=by unfold bodyM;rw [if_neg h5]
  have hb:[bound0].map Typ.cs = [[C.int .i64 3,C.str [],C.int .i64 0,C.sl []]]:=by rw [List.map_cons,List.map_nil,Typ.cs_eq];rfl
  rw [e];rw [hb] at hA;generalize applyM (shiftM 0 1 t) [bound0] = z at *;generalize shiftM 0 1 t = y at *;clear h5 e e0
  ((try refine W.a ?_);simp only [go_sem,seval,c126,k5])
  (refine W.c1 (hV _) ?_;simp only [go_sem,seval])
  refine W.no rfl (W.a ?_);simp only [go_sem,seval,k5];refine W.no rfl (W.a ?_);simp only [go_sem,seval]
  (refine W.c1 (hS _) ?_;simp only [go_sem,seval])
  ((try refine W.a ?_);simp only [go_sem,seval])
  (refine W.c1w (hA _) ?_;simp only [go_sem,seval])
  ((try refine W.a ?_);simp only [go_sem,seval])
  (refine W.fs (hok) (by simp only [r126,go_sem,seval];rfl) ?_;simp only [resV];try exact V.wk.rfl _)
  all_goals (all_goals exact wk_here)
theorem clause_shape (w0:World) (t:Typ) (flex:Int) (hv:validM t = true) (hn:nodesM t ≤ 1000000) (σ:H):DC Tryz.prog w0 125 [t.v,I flex] σ (Same (.tup [S (shapeM flex t).1,.c (.sl ((shapeM flex t).2.1.map Typ.cs)),I (shapeM flex t).2.2]) σ):=by
 refine k125.go rfl (fun hok hsz=>?_)
 have hS:=fun σ=>clause_Split w0 t hv hn σ
 have hL:=fun σ=>sig_Logical w0 (hd t).name σ
 have hA:=fun σ=>clause_args w0 (hd t).name σ
 unfold shapeM
 generalize (splitM t).2 = l at *
 generalize hd t = h at *
 by_cases h4:h.k = 4
 ·rw [if_pos (.inl h4)]
  have k4:(h.k == 4) = true:=by simp [h4]
  clear h4
  ((try refine W.a ?_);simp only [go_sem,seval,c125])
  (refine W.c1 (hS _) ?_;simp only [go_sem,seval])
  ((try refine W.a ?_);simp only [go_sem,seval,k4])
  refine W.yes rfl (W.a ?_);simp only [go_sem,seval]
  (refine W.fs (hok) (by simp only [r125,go_sem,seval];rfl) ?_;simp only [resV];try exact V.wk.rfl _)
  all_goals (all_goals exact wk_here)
 have k4:(h.k == 4) = false:=by simp [h4]
 by_cases h3:h.k = 3
 ·rw [if_pos (.inr h3)]
  have k3:(h.k == 3) = true:=by simp [h3]
  clear h3 h4
  ((try refine W.a ?_);simp only [go_sem,seval,c125])
  (refine W.c1 (hS _) ?_;simp only [go_sem,seval])
  ((try refine W.a ?_);simp only [go_sem,seval,k4,k3])
  refine W.yes rfl (W.a ?_);simp only [go_sem,seval]
  (refine W.fs (hok) (by simp only [r125,go_sem,seval];rfl) ?_;simp only [resV];try exact V.wk.rfl _)
  all_goals (all_goals exact wk_here)
 have k3:(h.k == 3) = false:=by simp [h3]
 rw [if_neg (fun e=>e.elim h4 h3)]
 by_cases h0:h.k = 0
 ·rw [if_neg (fun e=>e h0)]
  have k0:(h.k == 0) = true:=by simp [h0]
  clear h3 h4 h0
  cases hlg:logicalB h.name
  ·rw [hlg] at hL
   rw [if_pos rfl]
   ((try refine W.a ?_);simp only [go_sem,seval,c125])
   (refine W.c1 (hS _) ?_;simp only [go_sem,seval])
   ((try refine W.a ?_);simp only [go_sem,seval,k4,k3])
   refine W.no rfl (W.a ?_);simp only [go_sem,seval,bne,k0];refine W.no rfl (W.a ?_);simp only [go_sem,seval]
   (refine W.c1 (hL _) ?_;simp only [go_sem,seval])
   ((try refine W.a ?_);simp only [go_sem,seval])
   refine W.yes rfl (W.a ?_);simp only [go_sem,seval]
   (refine W.fs (hok) (by simp only [r125,go_sem,seval];rfl) ?_;simp only [resV];try exact V.wk.rfl _)
   all_goals (all_goals exact wk_here)
  ·rw [hlg] at hL
   rw [if_neg (by simp)]
   by_cases hal:(l.length:Int) = argsM h.name
   ·rw [if_neg (fun e=>e hal)]
    have ka:((l.length:Int) == argsM h.name) = true:=by simp [hal]
    clear hal
    ((try refine W.a ?_);simp only [go_sem,seval,c125])
    (refine W.c1 (hS _) ?_;simp only [go_sem,seval])
    ((try refine W.a ?_);simp only [go_sem,seval,k4,k3])
    refine W.no rfl (W.a ?_);simp only [go_sem,seval,bne,k0];refine W.no rfl (W.a ?_);simp only [go_sem,seval]
    (refine W.c1 (hL _) ?_;simp only [go_sem,seval])
    ((try refine W.a ?_);simp only [go_sem,seval])
    refine W.no rfl (W.a ?_);simp only [go_sem,seval]
    (refine W.c1 (hA _) ?_;simp only [go_sem,seval])
    ((try refine W.a ?_);simp only [go_sem,seval,bne,ka])
    refine W.no rfl (W.a ?_);simp only [go_sem,seval]
    (refine W.fs (hok) (by simp only [r125,go_sem,seval];rfl) ?_;simp only [resV];try exact V.wk.rfl _)
    all_goals (all_goals exact wk_here)
   ·rw [if_pos hal]
    have ka:((l.length:Int) == argsM h.name) = false:=by simp [hal]
    clear hal
    ((try refine W.a ?_);simp only [go_sem,seval,c125])
    (refine W.c1 (hS _) ?_;simp only [go_sem,seval])
    ((try refine W.a ?_);simp only [go_sem,seval,k4,k3])
    refine W.no rfl (W.a ?_);simp only [go_sem,seval,bne,k0];refine W.no rfl (W.a ?_);simp only [go_sem,seval]
    (refine W.c1 (hL _) ?_;simp only [go_sem,seval])
    ((try refine W.a ?_);simp only [go_sem,seval])
    refine W.no rfl (W.a ?_);simp only [go_sem,seval]
    (refine W.c1 (hA _) ?_;simp only [go_sem,seval])
    ((try refine W.a ?_);simp only [go_sem,seval,bne,ka])
    refine W.yes rfl (W.a ?_);simp only [go_sem,seval]
    (refine W.fs (hok) (by simp only [r125,go_sem,seval];rfl) ?_;simp only [resV];try exact V.wk.rfl _)
    all_goals (all_goals exact wk_here)
 ·rw [if_pos h0]
  have k0:(h.k == 0) = false:=by simp [h0]
  clear h3 h4 h0
  ((try refine W.a ?_);simp only [go_sem,seval,c125])
  (refine W.c1 (hS _) ?_;simp only [go_sem,seval])
  ((try refine W.a ?_);simp only [go_sem,seval,k4,k3])
  refine W.no rfl (W.a ?_);simp only [go_sem,seval,bne,k0];refine W.yes rfl (W.a ?_);simp only [go_sem,seval]
  (refine W.fs (hok) (by simp only [r125,go_sem,seval];rfl) ?_;simp only [resV];try exact V.wk.rfl _)
  all_goals (all_goals exact wk_here)
end
section
def kvB (seen:List Int):List (C × C):=seen.map fun n=>(C.int .i64 n,C.bool true)
theorem kvB_ok (seen:List Int):((kvB seen).all fun p=>(KD.i IntKind.i64).ok p.1) = true:=by
 unfold kvB
 rw [List.all_map,List.all_eq_true]
 intro x _
 rfl
theorem kvB_find (n:Int):∀ (seen:List Int),findC (.int .i64 n) (kvB seen) = if seen.contains n = true then some (.bool true) else none
 | []=>by rw [if_neg (by simp)];rfl
 | x :: l=>by
   show (if eqK (C.int .i64 n) (C.int .i64 x) = true then _ else findC (.int .i64 n) (kvB l)) = _
   rw [kvB_find n l,List.contains_cons]
   have e:eqK (C.int .i64 n) (C.int .i64 x) = (n == x):=rfl
   rw [e]
   cases hx:(n == x) <;> simp
theorem kvB_upd (n:Int):∀ (seen:List Int),seen.contains n = false → updC (.int .i64 n) (.bool true) (kvB seen) = kvB (seen ++ [n])
 | [],_=>rfl
 | x :: l,h=>by
   rw [List.contains_cons,Bool.or_eq_false_iff] at h
   show (if eqK (C.int .i64 n) (C.int .i64 x) = true then _ else (C.int .i64 x,C.bool true) :: updC (.int .i64 n) (.bool true) (kvB l)) = _
   have e:eqK (C.int .i64 n) (C.int .i64 x) = (n == x):=rfl
   rw [e,h.1,kvB_upd n l h.2]
   rfl
theorem distM_cons (k:Int) (seen:List Int) (t:Typ) (l:List Typ):distM k seen (t :: l) = if t.k = 3 ∧ t.n < k ∧ seen.contains t.n = false then distM k (seen ++ [t.n]) l else false:=rfl
attribute [local go_sem] Typ.v Typ.cs_eq tk_mk tname_mk tn_mk tl_mk tysC
theorem clause_distinct (w0:World) (l:List Typ) (k:Int) (hn:l.length ≤ 1000000) (σ:H):DC Tryz.prog w0 332 [.c (.sl (l.map Typ.cs)),I k] σ (Same (B (distM k [] l)) σ):=by
 refine k332.go rfl (fun hok hsz=>?_)
 (refine W.a ?_;simp only [go_sem,seval,c332])
 refine W.loopP (α:=Nat × List Int) (fun x=>x.1 ≤ l.length ∧ distM k [] l = distM k x.2 (l.drop x.1)) (fun x=>⟨(((((base.put (some 1) (I k)).put (some 5) (.mp σ.length)).put (some 9) (.c (.sl (l.map Typ.cs)))).put (some 10) (I (l.length:Int))).put (some 11) (I (x.1:Int))),σ ++ [.mp (kvB x.2)]⟩) (fun x=>l.length - x.1) (0,[]) ⟨Nat.zero_le _,rfl⟩ ?_ (fun x hx=>?_)
 ·simp only [kvB,List.map_nil]
  (refine Lew.env ?_;exact lee_here)
 obtain ⟨i,seen⟩:=x
 obtain ⟨hi,hd⟩:=hx
 simp only at hi hd
 rw [hd]
 by_cases hlt:i < l.length
 ·have h1:(i:Int) < (l.length:Int):=by omega
  have h0:(0:Int) ≤ (i:Int):=by omega
  have hx:l[i]? = some l[i]:=List.getElem?_eq_getElem hlt
  have hw:IntKind.i64.wrap ((i:Int) + 1) = ((i + 1:Nat):Int):=by rw [wrap_in] <;> omega
  rw [List.drop_eq_getElem_cons hlt,distM_cons];rw [List.drop_eq_getElem_cons hlt,distM_cons] at hd;generalize l[i] = u at *
  by_cases h3:u.k = 3
  ·have k3:(u.k == 3) = true:=by simp [h3]
   by_cases hk:u.n < k
   ·have kk:¬ (u.n ≥ k):=by omega
    cases hs:seen.contains u.n
    ·rw [if_pos ⟨h3,hk,rfl⟩]
     rw [if_pos ⟨h3,hk,hs⟩] at hd
     have hf:=kvB_find u.n seen
     rw [hs,if_neg (by simp)] at hf
     have hu:=kvB_upd u.n seen hs
     have ha:=kvB_ok seen
     have hko:(KD.i IntKind.i64).ok (C.int IntKind.i64 u.n) = true:=rfl
     clear h3 hk
     (refine W.a ?_;simp only [go_sem,seval,h1])
     refine W.yes rfl (W.a ?_);simp only [go_sem,seval,h1,h0,hx,bne,k3,kk,ha,hko,hf,lookV,Option.getD_none];refine W.no rfl (W.a ?_);simp only [go_sem,seval,ha,hko,hu,hw];refine .inv ⟨(i + 1,seen ++ [u.n]),⟨hlt,rfl⟩,by simp only;omega,?_⟩
     (refine Lew.cutL (hok) ?_ (by simp) (by simp) ?_ ?_ ?_;exact lee_here;((try simp only [okB,wkB,go_sem,seval,low_mp]) <;> omega);(simp only [List.length_cons,List.length_nil,Nat.reduceAdd,List.take_succ_cons,List.take_zero,wkB,and_true];(repeat' (refine And.intro ?_ ?_)) <;> (first | exact Blk.wk.rfl _ | exact Blk.wk.gone _ | (refine Blk.wk_cells ?_ rfl;(exact wk_here))));(repeat' (first | exact LowE.base _ | (refine LowE.put ?_ (by first | exact .c _ | ((try simp only [okB,wkB,go_sem,seval,low_mp]) <;> omega))))))
    ·rw [if_neg (fun e=>by cases e.2.2)]
     have hf:=kvB_find u.n seen
     rw [hs,if_pos rfl] at hf
     have ha:=kvB_ok seen
     have hko:(KD.i IntKind.i64).ok (C.int IntKind.i64 u.n) = true:=rfl
     clear h3 hk
     (refine W.a ?_;simp only [go_sem,seval,h1])
     refine W.yes rfl (W.a ?_);simp only [go_sem,seval,h1,h0,hx,bne,k3,kk,ha,hko,hf,lookV,Option.getD_some];refine W.yes rfl (W.a ?_);simp only [go_sem,seval]
     (refine W.fs (hok) (by simp only [r332,go_sem,seval];rfl) ?_;simp only [resV];try exact V.wk.rfl _)
   ·have kk:(u.n ≥ k):=by omega
    rw [if_neg (fun e=>hk e.2.1)]
    clear h3 hk
    (refine W.a ?_;simp only [go_sem,seval,h1])
    refine W.yes rfl (W.a ?_);simp only [go_sem,seval,h1,h0,hx,bne,k3,kk];refine W.yes rfl (W.a ?_);simp only [go_sem,seval]
    (refine W.fs (hok) (by simp only [r332,go_sem,seval];rfl) ?_;simp only [resV];try exact V.wk.rfl _)
  ·have k3:(u.k == 3) = false:=by simp [h3]
   rw [if_neg (fun e=>h3 e.1)]
   clear h3
   (refine W.a ?_;simp only [go_sem,seval,h1])
   refine W.yes rfl (W.a ?_);simp only [go_sem,seval,h1,h0,hx,bne,k3];refine W.yes rfl (W.a ?_);simp only [go_sem,seval]
   (refine W.fs (hok) (by simp only [r332,go_sem,seval];rfl) ?_;simp only [resV];try exact V.wk.rfl _)
 obtain rfl:i = l.length:=by omega
 have h1:¬ ((l.length:Nat):Int) < ((l.length:Nat):Int):=by omega
 rw [List.drop_length]
 (refine W.a ?_;simp only [go_sem,seval,h1])
 refine W.no rfl (W.a ?_)
 simp only [go_sem,seval]
 (refine W.fs (hok) (by simp only [r332,go_sem,seval];rfl) ?_;simp only [resV];try exact V.wk.rfl _)
theorem patM_head {k:Int} {t:Typ} (hv:validM t = true) (h5:t.k ≠ 5):patM k t = if (hd t).k = 5 then false else if (hd t).k = 4 ∨ ((hd t).k = 3 ∧ (hd t).n ≥ k) then distM k [] (splitM t).2 else (splitM t).2.all (patM k):=by
 unfold hd
 by_cases h6:t.k = 6
 ·obtain ⟨_,_,a,b,l,hl,ha⟩:=valid_app hv h6
  have e:splitM t = (a,b :: l):=by unfold splitM;rw [if_pos h6,hl];rfl
  rw [patM_app h6 hl,e]
 ·have e:splitM t = (t,[]):=by unfold splitM;rw [if_neg h6]
  rw [patM_leaf h5 h6,e,if_neg h5];split
  ·rfl
  ·rfl
theorem splitM_mem {t u:Typ} (hv:validM t = true) (hu:u ∈ (splitM t).2):u ∈ t.l:=by
 unfold splitM at hu
 split at hu
 ·rename_i h6
  obtain ⟨_,_,a,b,l,hl,ha⟩:=valid_app hv h6;rw [hl] at hu ⊢;exact List.mem_cons_of_mem _ hu
 ·cases hu
theorem splitM_len {t:Typ} (hv:validM t = true):(splitM t).2.length ≤ nodesM t:=by
 unfold splitM
 split
 ·rename_i h6
  obtain ⟨_,_,a,b,l,hl,ha⟩:=valid_app hv h6
  have:=kids_nodes t
  rw [hl] at this ⊢;simp only [List.length_cons,List.tail_cons] at this ⊢;omega
 ·exact Nat.zero_le _
theorem clause_pattern (w0:World) (t:Typ):validM t = true → ∀ (k:Nat),k + nodesM t ≤ 100000 → ∀ (σ:H),DC Tryz.prog w0 279 [t.v,I (k:Int)] σ (Same (B (patM (k:Int) t)) σ):=by
 refine Typ.ind (P:=fun t=>validM t = true → ∀ (k:Nat),k + nodesM t ≤ 100000 → ∀ (σ:H),DC Tryz.prog w0 279 [t.v,I (k:Int)] σ (Same (B (patM (k:Int) t)) σ)) (fun t ih hv k hk σ=>?_) t
 refine k279.go rfl (fun hok hsz=>?_)
 by_cases h5:t.k = 5
 ·obtain ⟨_,_,b,hl⟩:=valid_lam hv h5
  have hb:b ∈ t.l:=by rw [hl];simp
  have hnb:=nodesM_mem hb
  have hP:=fun σ=>ih b hb (valid_kids hv b hb) (k + 1) (by omega) σ
  rw [patM_lam h5 hl]
  have e:((k + 1:Nat):Int) = (k:Int) + 1:=by omega
  rw [e] at hP
  have hw:IntKind.i64.wrap ((k:Int) + 1) = (k:Int) + 1:=by rw [wrap_in] <;> omega
  have k5:(t.k == 5) = true:=by simp [h5]
  have hx:t.l[0]? = some b:=by rw [hl];rfl
  have hlen:(0:Int) < (t.l.length:Int):=by rw [hl];simp
  generalize patM ((k:Int) + 1) b = z at *;clear h5 hl ih
  (refine W.a ?_;simp only [go_sem,seval,c279,k5])
  refine W.yes rfl (W.a ?_);simp only [go_sem,seval];apply W.dreg
  case hc=>
   (apply Canon.advCO;simp only [advCO_nil,advCO_cons,cG_yes,cG_no,cS_some,cS_loud,go_sem,seval,hx,hlen,hw])
   (apply Canon.call (hP _);(case hg=>rfl);(case hf=>rfl);(case ha=>first | rfl | simp))
   (apply Canon.advCO;simp only [advCO_nil,advCO_cons,cG_yes,cG_no,cS_some,cS_loud,go_sem,seval])
   exact Canon.nil
  (refine W.a ?_;simp only [go_sem,seval])
  (refine W.fs (hok) (by simp only [r279,go_sem,seval];rfl) ?_;simp only [resV];try exact V.wk.rfl _)
 have k5:(t.k == 5) = false:=by simp [h5]
 rw [patM_head hv h5]
 have hS:=fun σ=>clause_Split w0 t hv (by omega) σ
 have hmem:=fun u=>splitM_mem (t:=t) (u:=u) hv
 have hD:=fun σ=>clause_distinct w0 (splitM t).2 (k:Int) (by have:=splitM_len hv;omega) σ
 have hP:∀ σ':H,σ'[σ.length + 1]? = some (.cells [I (k:Int)]) → ∀ u ∈ (splitM t).2,DC Tryz.prog w0 333 (u.v :: [.ptr (σ.length + 1) 0]) σ' (Same (B (!patM (k:Int) u)) σ'):=fun σ' e1 u hu=>by
  have hm:=hmem u hu
  have hnb:=nodesM_mem hm
  have hq:=fun σ=>ih u hm (valid_kids hv u hm) k (by omega) σ
  generalize patM (k:Int) u = z at *;refine k333.go rfl (fun hok hsz=>?_)
  have e2:=hG e1
  (refine W.a ?_;simp only [go_sem,seval,c333,e2])
  (refine W.c1 (hq _) ?_;simp only [go_sem,seval])
  (refine W.a ?_;simp only [go_sem,seval])
  (refine W.fs (hok) (by simp only [r333,go_sem,seval];rfl) ?_;simp only [resV];try exact V.wk.rfl _)
 have hC:=fun (σ':H) (e1:σ'[σ.length + 1]? = some (.cells [I (k:Int)]))=>ContainsFunc_term w0 (splitM t).2 333 [.ptr (σ.length + 1) 0] (fun u=>!patM (k:Int) u) σ' (hP σ' e1)
 have hall:(splitM t).2.all (patM (k:Int)) = !(splitM t).2.any (fun u=>!patM (k:Int) u):=by
  rw [List.not_any_eq_all_not];simp
 rw [hall]
 clear hP hmem ih hall
 generalize (splitM t).2.any (fun u=>!patM (k:Int) u) = z at *
 generalize (splitM t).2 = l at *
 generalize hd t = h at *
 generalize distM (k:Int) [] l = y at *
 by_cases g5:h.k = 5
 ·rw [if_pos g5]
  have q5:(h.k == 5) = true:=by simp [g5]
  clear g5 h5
  (refine W.a ?_;simp only [go_sem,seval,c279,k5])
  refine W.no rfl (W.a ?_);simp only [go_sem,seval]
  (refine W.c1 (hS _) ?_;simp only [go_sem,seval])
  (refine W.a ?_;simp only [go_sem,seval,q5])
  refine W.yes rfl (W.a ?_);simp only [go_sem,seval]
  (refine W.fs (hok) (by simp only [r279,go_sem,seval];rfl) ?_;simp only [resV];try exact V.wk.rfl _)
 have q5:(h.k == 5) = false:=by simp [g5]
 rw [if_neg g5]
 by_cases g4:h.k = 4
 ·rw [if_pos (.inl g4)]
  have q4:(h.k == 4) = true:=by simp [g4]
  clear g5 g4 h5
  (refine W.a ?_;simp only [go_sem,seval,c279,k5])
  refine W.no rfl (W.a ?_);simp only [go_sem,seval]
  (refine W.c1 (hS _) ?_;simp only [go_sem,seval])
  (refine W.a ?_;simp only [go_sem,seval,q5])
  refine W.no rfl (W.a ?_);simp only [go_sem,seval,q4];refine W.yes rfl (W.a ?_);simp only [go_sem,seval]
  (refine W.c1 (hD _) ?_;simp only [go_sem,seval])
  (refine W.a ?_;simp only [go_sem,seval])
  (refine W.fs (hok) (by simp only [r279,go_sem,seval];rfl) ?_;simp only [resV];try exact V.wk.rfl _)
 have q4:(h.k == 4) = false:=by simp [g4]
 by_cases g3:h.k = 3
 ·have q3:(h.k == 3) = true:=by simp [g3]
  by_cases gn:h.n ≥ (k:Int)
  ·rw [if_pos (.inr ⟨g3,gn⟩)]
   clear g5 g4 g3 h5
   (refine W.a ?_;simp only [go_sem,seval,c279,k5])
   refine W.no rfl (W.a ?_);simp only [go_sem,seval]
   (refine W.c1 (hS _) ?_;simp only [go_sem,seval])
   (refine W.a ?_;simp only [go_sem,seval,q5])
   refine W.no rfl (W.a ?_);simp only [go_sem,seval,q4,q3,gn];refine W.yes rfl (W.a ?_);simp only [go_sem,seval]
   (refine W.c1 (hD _) ?_;simp only [go_sem,seval])
   (refine W.a ?_;simp only [go_sem,seval])
   (refine W.fs (hok) (by simp only [r279,go_sem,seval];rfl) ?_;simp only [resV];try exact V.wk.rfl _)
  ·rw [if_neg (fun e=>e.elim g4 (fun e=>gn e.2))]
   clear g5 g4 g3 h5
   (refine W.a ?_;simp only [go_sem,seval,c279,k5])
   refine W.no rfl (W.a ?_);simp only [go_sem,seval]
   (refine W.c1 (hS _) ?_;simp only [go_sem,seval])
   (refine W.a ?_;simp only [go_sem,seval,q5])
   refine W.no rfl (W.a ?_);simp only [go_sem,seval,q4,q3,gn];refine W.no rfl (W.a ?_);simp only [go_sem,seval]
   (refine W.c1 (hC _ (by simp;rfl)) ?_;simp only [go_sem,seval])
   (refine W.a ?_;simp only [go_sem,seval])
   (refine W.fs (hok) (by simp only [r279,go_sem,seval];rfl) ?_;simp only [resV];try exact V.wk.rfl _)
 ·have q3:(h.k == 3) = false:=by simp [g3]
  rw [if_neg (fun e=>e.elim g4 (fun e=>g3 e.1))]
  clear g5 g4 g3 h5
  (refine W.a ?_;simp only [go_sem,seval,c279,k5])
  refine W.no rfl (W.a ?_);simp only [go_sem,seval]
  (refine W.c1 (hS _) ?_;simp only [go_sem,seval])
  (refine W.a ?_;simp only [go_sem,seval,q5])
  refine W.no rfl (W.a ?_);simp only [go_sem,seval,q4,q3];refine W.no rfl (W.a ?_);simp only [go_sem,seval]
  (refine W.c1 (hC _ (by simp;rfl)) ?_;simp only [go_sem,seval])
  (refine W.a ?_;simp only [go_sem,seval])
  (refine W.fs (hok) (by simp only [r279,go_sem,seval];rfl) ?_;simp only [resV];try exact V.wk.rfl _)
end
section
def c280:AC:=.seq (.reg [.o 1 (.box (.t 0)),.o 2 (.box (.k (.agg zS4)))]) (.seq (.seq (.reg [.f 6 1 1,.l 7 6,.o 8 (.lenr (.t 7)),.o 9 (.bin .eql (.t 8) (zK 0))]) (.cond (.t 9) (.seq (.reg [.o 10 (.build zS4 [(1,1,(.k (.c (.str [116,114,117,101]))))]),.s 4 2 10]) (.ret)) (.skip))) (.seq (.reg [.f 11 1 1,.l 12 11,.o 13 (.iadd 4 (.t 12) (zK 0)),.d 14 4 13,.o 3 (.box (.k (.agg zS4))),.s 4 3 14]) (.seq (.seq (.reg [.f 15 1 1,.l 16 15,.o 17 (.slr 4 (.t 16) (some (zK 1)) none none),.o 18 (.lenr (.t 17)),.o 19 (.mov (zK 0))]) (.block 0 (.loop (.seq (.reg [.o 20 (.bin .lss (.t 19) (.t 18))]) (.seq (.cond (.t 20) (.skip) (.exit 0)) (.seq (.block 1 (.seq (.reg [.o 21 (.iadd 4 (.t 17) (.t 19)),.d 22 4 21,.o 5 (.box (.k (.agg zS4))),.s 4 5 22]) (.reg [.o 23 (.build zS4 [(1,1,(.k (.c (.str [44]))))]),.d 24 4 3,.d 25 4 5,.o 26 (.bsl 4 [.t 24,.t 25]),.k 27 42 [.t 23,.t 26],.s 4 3 27]))) (.reg [.o 28 (.bin .add (.t 19) (zK 1)),.m 19 28]))))))) (.seq (.reg [.d 29 4 3,.s 4 2 29]) (.ret)))))
def r280:List ResV:=[.celln 4 2]
theorem k280:CodeIs Tryz.prog 280 1 Tryz.f280 c280 r280:=.auto Tryz.func280
def c281:AC:=.seq (.reg [.o 1 (.box (.t 0)),.o 2 (.box (.k (.agg [.c (.int .i64 0),.csl [],.c (.bool false)])))]) (.seq (.reg [.f 6 0 1,.l 7 6,.o 8 (.bin .add (.t 7) (zK 1)),.f 9 2 1,.l 10 9,.o 11 (.build [.c (.int .i64 0),.csl [],.c (.bool false)] [(0,1,(.t 8)),(2,1,(.t 10))]),.o 3 (.box (.k (.agg [.c (.int .i64 0),.csl [],.c (.bool false)]))),.s 3 3 11]) (.seq (.seq (.reg [.f 12 1 1,.l 13 12,.o 14 (.lenr (.t 13)),.o 15 (.mov (zK 0))]) (.block 0 (.loop (.seq (.reg [.o 16 (.bin .lss (.t 15) (.t 14))]) (.seq (.cond (.t 16) (.skip) (.exit 0)) (.seq (.block 1 (.seq (.reg [.o 17 (.iadd 4 (.t 13) (.t 15)),.d 18 4 17,.o 5 (.box (.k (.agg zS4))),.s 4 5 18]) (.dreg [.f 19 1 3,.l 20 19,.d 21 4 5,.k 22 83 [.t 21,(zK 0),(zK 1)],.o 23 (.bsl 4 [.t 22]),.o 24 (.app 30 4 56 (.t 20) (.t 23)),.f 25 1 3,.s 1 25 24] [.q (.d 21 4 5),⟨.k 22 83 [.t 21,(zK 0),(zK 1)],true,0⟩,.q (.f 19 1 3),.q (.l 20 19),⟨.o 23 (.bsl 4 [.t 22]),false,1⟩,⟨.o 24 (.app 30 4 56 (.t 20) (.t 23)),true,1⟩,⟨.f 25 1 3,false,2⟩,⟨.s 1 25 24,true,2⟩]))) (.reg [.o 26 (.bin .add (.t 15) (zK 1)),.m 15 26]))))))) (.seq (.reg [.d 27 3 3,.s 3 2 27]) (.ret))))
def r281:List ResV:=[.celln 3 2]
theorem k281:CodeIs Tryz.prog 281 1 Tryz.f281 c281 r281:=.auto Tryz.func281
def c283:AC:=.seq (.reg [.o 2 (.box (.t 0)),.o 3 (.box (.t 1)),.o 4 (.box (.k (.agg [.c (.int .i64 0),.csl [],.c (.bool false)])))]) (.seq (.dreg [.f 5 1 2,.l 6 5,.k 7 334 [.t 6],.d 8 4 3,.o 9 (.bsl 4 [.t 8]),.o 10 (.app 30 4 56 (.t 7) (.t 9)),.f 11 1 2,.s 1 11 10] [.q (.f 5 1 2),.q (.l 6 5),⟨.k 7 334 [.t 6],true,0⟩,.q (.d 8 4 3),.q (.o 9 (.bsl 4 [.t 8])),⟨.o 10 (.app 30 4 56 (.t 7) (.t 9)),true,1⟩,⟨.f 11 1 2,false,2⟩,⟨.s 1 11 10,true,2⟩]) (.seq (.reg [.d 12 3 2,.s 3 4 12]) (.ret)))
def r283:List ResV:=[.celln 3 4]
theorem k283:CodeIs Tryz.prog 283 2 Tryz.f283 c283 r283:=.auto Tryz.func283
end
section
def arV (v:Int) (gs:List Typ) (any:Bool):V:=.agg [I v,.c (.sl (gs.map Typ.cs)),B any]
attribute [local go_sem] Typ.v Typ.cs_eq tk_mk tname_mk tn_mk tl_mk tysC arV
theorem clip_tm (w0:World) (l:List Typ) (σ:H):DC Tryz.prog w0 334 [.c (.sl (l.map Typ.cs))] σ (Same (.csl (l.map Typ.cs)) σ):=by
 refine k334.go rfl (fun hok hsz=>?_)
 have hall:=eq_true (rows4 l)
 have h0:(0:Int) ≤ (l.length:Int):=by omega
 have hle:(l.length:Int) ≤ (l.length:Int):=Int.le_refl _
 have ht:List.take l.length (List.map Typ.cs l) = List.map Typ.cs l:=List.take_of_length_le (by simp)
 (refine W.a ?_;simp only [go_sem,seval,c334,hall,h0,hle,ht])
 (refine W.fs (hok) (by simp only [r334,go_sem,seval];rfl) ?_;simp only [resV];try exact V.wk.rfl _)
theorem around_with (w0:World) (v:Int) (gs:List Typ) (any:Bool) (g:Typ) (hn:gs.length ≤ 1000000) (σ:H):DC Tryz.prog w0 283 [arV v gs any,g.v] σ (Same (arV v (gs ++ [g]) any) σ):=by
 refine k283.go rfl (fun hok hsz=>?_)
 have hC:=fun σ=>clip_tm w0 gs σ
 have hb1:(gs.length + 1) * 56 ≤ 140737488355328:=by omega
 have hb2:gs.length + 1 ≤ 140737488355328:=by omega
 have hb3:gs.length ≤ 140737488355327:=by omega
 have hall:=eq_true (rows4 gs)
 have hE:(gs ++ [g]).map Typ.cs = gs.map Typ.cs ++ [[C.int .i64 g.k,C.str g.name,C.int .i64 g.n,C.sl (g.l.map Typ.cs)]]:=by rw [List.map_append,List.map_cons,List.map_nil,Typ.cs_eq]
 simp only [arV,hE]
 have hne:∀ (x:List C),([x] = []) = False:=fun x=>by simp
 generalize hR:gs.map Typ.cs = R at *
 have hRl:R.length = gs.length:=by rw [← hR,List.length_map]
 (refine W.a ?_;simp only [go_sem,seval,c283])
 apply W.dregE (List.cons_ne_nil _ _)
 case hc=>
  (apply CanonE.advPO;simp only [go_sem,seval])
  (apply CanonE.call (hC _);(case hg=>rfl);(case hf=>rfl);(case ha=>first | rfl | simp))
  (apply CanonE.advPO;simp only [go_sem,seval,hb1,hb2,hb3,hall,hRl,hne,or_true,ne_eq,not_false_eq_true])
  exact CanonE.nil
 (refine W.a ?_;simp only [go_sem,seval])
 (refine W.fs (hok) (by simp only [r283,go_sem,seval];rfl) ?_;simp only [resV];try exact V.wk.rfl _)
 all_goals (all_goals exact wk_here)
theorem around_under (w0:World) (v:Int) (gs:List Typ) (any:Bool) (hv:0 ≤ v) (hv':v ≤ 1000000) (hn:gs.length ≤ 1000000) (hg:∀ g ∈ gs,nearM 2305843009213693952 g = true ∧ nodesM g ≤ 40000) (σ:H):DC Tryz.prog w0 281 [arV v gs any] σ (Same (arV (v + 1) (gs.map (shiftM 0 1)) any) σ):=by
 refine k281.go rfl (fun hok hsz=>?_)
 have hv1:IntKind.i64.wrap (v + 1) = v + 1:=by rw [wrap_in] <;> omega
 (refine W.a ?_;simp only [go_sem,seval,c281,hv1])
 refine W.ownCell (σ.length + 2) 1 30 4 (cs:=[I (v + 1),.csl [],B any]) (tg:=none) ?_ rfl ?_
 ·simp only [hget,List.getElem?_cons_succ,List.getElem?_cons_zero]
  rfl
 simp only [go_sem,seval]
 refine W.loopP (fun i=>i ≤ gs.length) (fun i=>⟨(((((base.put (some 2) (.ptr (σ.length + 1) 0)).put (some 3) (.ptr (σ.length + 2) 0)).put (some 13) (.c (.sl (gs.map Typ.cs)))).put (some 14) (I (gs.length:Int))).put (some 15) (I (i:Int))),σ ++ [.cells [I v,.c (.sl (gs.map Typ.cs)),B any],.cells [I 0,.csl [],B false],.cells [I (v + 1),.osl (σ.length + 3) (((gs.take i).map (shiftM 0 1)).map Typ.cs),B any],.spare 30 4 i]⟩) (fun i=>gs.length - i) 0 (Nat.zero_le _) ?_ (fun i hi=>?_)
 ·simp only [List.take_zero,List.map_nil]
  simp only [go_sem,seval,natCast0]
  (refine Lew.env ?_;exact lee_here)
 by_cases hlt:i < gs.length
 ·have h1:(i:Int) < (gs.length:Int):=by omega
  have h0:(0:Int) ≤ (i:Int):=by omega
  have hx:gs[i]? = some gs[i]:=List.getElem?_eq_getElem hlt
  have hw:IntKind.i64.wrap ((i:Int) + 1) = ((i + 1:Nat):Int):=by rw [wrap_in] <;> omega
  obtain ⟨g1,g2⟩:=hg _ (List.getElem_mem hlt)
  have hS:=fun σ=>term_Shift w0 gs[i] 0 1 (by decide) (by decide) (by decide) (by decide) g1 (by omega) σ
  have hb1:(i + 1) * 56 ≤ 140737488355328:=by omega
  have hb2:i + 1 ≤ 140737488355328:=by omega
  have hb3:i ≤ 140737488355327:=by omega
  have hE:((gs.take (i + 1)).map (shiftM 0 1)).map Typ.cs = ((gs.take i).map (shiftM 0 1)).map Typ.cs ++ [(shiftM 0 1 gs[i]).cs]:=by
   rw [List.take_succ_eq_append_getElem hlt];simp only [List.map_append,List.map_cons,List.map_nil]
  rw [Typ.cs_eq] at hE;generalize shiftM 0 1 gs[i] = z at *
  have hml:(((gs.take i).map (shiftM 0 1)).map Typ.cs).length = i:=by simp;omega
  generalize ((gs.take i).map (shiftM 0 1)).map Typ.cs = mr at *
  (refine W.a ?_;simp only [go_sem,seval,h1])
  refine W.yes rfl (W.a ?_);simp only [go_sem,seval,h1,h0,hx];apply W.dregE (List.cons_ne_nil _ _)
  case hc=>
   (apply CanonE.advPO;simp only [go_sem,seval])
   (apply CanonE.call (hS _);(case hg=>rfl);(case hf=>rfl);(case ha=>first | rfl | simp))
   (apply CanonE.advPO;simp only [go_sem,seval,hb1,hb2,hb3,hml])
   exact CanonE.nil
  (refine W.a ?_;simp only [go_sem,seval,hw])
  refine .inv ⟨i + 1,hlt,by omega,?_⟩
  rw [hE]
  (refine Lew.cutL (hok) ?_ (by simp) (by simp) ?_ ?_ ?_;exact lee_here;((try simp only [okB,wkB,go_sem,seval]) <;> omega);(simp only [List.length_cons,List.length_nil,Nat.reduceAdd,List.take_succ_cons,List.take_zero,wkB,and_true];(repeat' (refine And.intro ?_ ?_)) <;> (first | exact Blk.wk.rfl _ | exact Blk.wk.gone _ | (refine Blk.wk_cells ?_ rfl;(exact wk_here))));(repeat' (first | exact LowE.base _ | (refine LowE.put ?_ (by first | exact .c _ | ((try simp only [okB,wkB,go_sem,seval]) <;> omega))))))
 obtain rfl:i = gs.length:=by omega
 have h1:¬ ((gs.length:Nat):Int) < ((gs.length:Nat):Int):=by omega
 rw [List.take_length]
 (refine W.a ?_;simp only [go_sem,seval,h1])
 refine W.no rfl (W.a ?_)
 simp only [go_sem,seval]
 (refine W.fs (hok) (by simp only [r281,go_sem,seval];rfl) ?_;simp only [resV];try exact V.wk.rfl _)
 all_goals (all_goals exact wk_here)
theorem around_body (w0:World) (v:Int) (gs:List Typ) (any:Bool) (hn:gs.length ≤ 1000000) (σ:H):DC Tryz.prog w0 280 [arV v gs any] σ (Same (bodyOf gs).v σ):=by
 refine k280.go rfl (fun hok hsz=>?_)
 cases gs with
 | nil=>
   have e:bodyOf [] = trueT:=rfl
   rw [e]
   (refine W.a ?_;simp only [go_sem,seval,c280,trueT])
   refine W.yes rfl (W.a ?_);simp only [go_sem,seval]
   (refine W.fs (hok) (by simp only [r280,go_sem,seval];rfl) ?_;simp only [resV];try exact V.wk.rfl _)
   all_goals (all_goals exact wk_here)
 | cons g l=>
   have e:bodyOf (g :: l) = l.foldl andM g:=by unfold bodyOf;rw [if_neg (by simp)];rfl
   rw [e]
   have hne:(((l.length + 1:Nat):Int) == 0) = false:=by simp;omega
   have hlen:(0:Int) < ((l.length + 1:Nat):Int):=by omega
   have hlen1:(1:Int) ≤ ((l.length + 1:Nat):Int):=by omega
   have hall:=eq_true (rows4 (g :: l))
   have htk:List.take l.length (List.map Typ.cs l) = List.map Typ.cs l:=List.take_of_length_le (by simp)
   simp only [List.length_cons] at hn;rw [List.map_cons,Typ.cs_eq] at hall
   have hl4:=rows4 l
   (refine W.a ?_;simp only [go_sem,seval,c280,hne,hlen,hlen1,hall])
   refine W.no rfl (W.a ?_);simp only [go_sem,seval,hne,hlen,hlen1,hall,htk,Nat.add_sub_cancel];refine W.loopP (fun i=>i ≤ l.length) (fun i=>⟨(((((base.put (some 2) (.ptr (σ.length + 1) 0)).put (some 3) (.ptr (σ.length + 2) 0)).put (some 17) (.c (.sl (l.map Typ.cs)))).put (some 18) (I (l.length:Int))).put (some 19) (I (i:Int))),σ ++ [.cells [I v,.c (.sl ((g :: l).map Typ.cs)),B any],.cells [I 0,S [],I 0,.csl []],.cells ((l.take i).foldl andM g).v.cellsV]⟩) (fun i=>l.length - i) 0 (Nat.zero_le _) ?_ (fun i hi=>?_)
   ·simp only [List.take_zero,List.foldl_nil]
    simp only [go_sem,seval,natCast0]
    (refine Lew.env ?_;exact lee_here)
   by_cases hlt:i < l.length
   ·have h1:(i:Int) < (l.length:Int):=by omega
    have h0:(0:Int) ≤ (i:Int):=by omega
    have hx:l[i]? = some l[i]:=List.getElem?_eq_getElem hlt
    have hw:IntKind.i64.wrap ((i:Int) + 1) = ((i + 1:Nat):Int):=by rw [wrap_in] <;> omega
    have hE:(l.take (i + 1)).foldl andM g = andM ((l.take i).foldl andM g) l[i]:=by
     rw [List.take_succ_eq_append_getElem hlt,List.foldl_append]
     rfl
    have hA:=fun σ=>term_Apply w0 comma [(l.take i).foldl andM g,l[i]] (by simp [comma,tl_mk]) σ
    rw [andM_apply,← hE] at hA;simp only [List.map_cons,List.map_nil,Typ.cs_eq] at hA;generalize (l.take i).foldl andM g = a at *;generalize hBe:(l.take (i + 1)).foldl andM g = b at *;generalize l[i] = u at *
    (refine W.a ?_;simp only [go_sem,seval,h1])
    refine W.yes rfl (W.a ?_);simp only [go_sem,seval,h1,h0,hx]
    (refine W.c1w (hA _) ?_;simp only [go_sem,seval])
    (refine W.a ?_;simp only [go_sem,seval,hw])
    refine .inv ⟨i + 1,hlt,by omega,?_⟩
    simp only [hBe]
    (refine Lew.cutL (hok) ?_ (by simp) (by simp) ?_ ?_ ?_;exact lee_here;((try simp only [okB,wkB,go_sem,seval]) <;> omega);(simp only [List.length_cons,List.length_nil,Nat.reduceAdd,List.take_succ_cons,List.take_zero,wkB,and_true];(repeat' (refine And.intro ?_ ?_)) <;> (first | exact Blk.wk.rfl _ | exact Blk.wk.gone _ | (refine Blk.wk_cells ?_ rfl;(exact wk_here))));(repeat' (first | exact LowE.base _ | (refine LowE.put ?_ (by first | exact .c _ | ((try simp only [okB,wkB,go_sem,seval]) <;> omega))))))
   obtain rfl:i = l.length:=by omega
   have h1:¬ ((l.length:Nat):Int) < ((l.length:Nat):Int):=by omega
   rw [List.take_length];generalize l.foldl andM g = z at *
   (refine W.a ?_;simp only [go_sem,seval,h1])
   refine W.no rfl (W.a ?_);simp only [go_sem,seval]
   (refine W.fs (hok) (by simp only [r280,go_sem,seval];rfl) ?_;simp only [resV];try exact V.wk.rfl _)
   all_goals (all_goals exact wk_here)
end
section
attribute [local go_sem] Typ.v Typ.cs_eq tk_mk tname_mk tn_mk tl_mk tysC
theorem split_appV (w0:World) (t a:Typ) (l:List Typ) (h6:t.k = 6) (hv:validM t = true) (hl:t.l = a :: l) (hl0:l ≠ []) (hn:l.length ≤ 1000000) (σ:H):DC Tryz.prog w0 220 [t.v] σ (Same (.tup [a.v,.vec (σ.length + 2) l.length]) (σ ++ [.cells t.v.cellsV,.cells a.v.cellsV,.vec 30 4 (l.map Typ.cs).flatten])):=by
 refine k220.goN rfl (fun hok hsz=>?_)
 have k6:(t.k == 6) = true:=by simp [h6]
 have hV:=fun σ=>term_Valid w0 t σ
 rw [hv] at hV
 have hcl:=fun σ=>clone_tmV w0 (l.map Typ.cs) (by simpa using hl0) (rows4 l) (by rw [List.length_map];exact hn) σ
 rw [List.length_map] at hcl
 have hall:=eq_true (rows4 t.l)
 have hx:t.l[0]? = some a:=by rw [hl];rfl
 have hlen:(0:Int) < (t.l.length:Int):=by rw [hl,List.length_cons];omega
 have hlen1:(1:Int) ≤ (t.l.length:Int):=by omega
 have hdr:List.take (t.l.length - 1) (List.drop 1 (List.map Typ.cs t.l)) = l.map Typ.cs:=by
  rw [hl,List.map_cons,List.drop_succ_cons,List.drop_zero,List.length_cons,Nat.add_sub_cancel,List.take_of_length_le (by simp)]
 clear hl h6 hv
 ((try refine W.a ?_);simp only [go_sem,seval,c220,bne,k6])
 (refine W.c1 (hV _) ?_;simp only [go_sem,seval])
 refine W.no rfl (W.a ?_)
 simp only [go_sem,seval]
 apply W.dregE (List.cons_ne_nil _ _)
 case hc=>
  (apply CanonE.advPO;simp only [go_sem,seval,hall,hlen1,hdr,hlen,hx])
  (apply CanonE.call (hcl _);(case hg=>rfl);(case hf=>rfl);(case ha=>first | rfl | simp))
  (apply CanonE.advPO;simp only [go_sem,seval,hall,hlen1,hdr,hlen,hx])
  exact CanonE.nil
 ((try refine W.a ?_);simp only [go_sem,seval])
 refine W.ret ⟨_,_,(by simp only [resEval,r220,go_sem,seval];rfl),.rfl _,?_⟩
 exact ⟨rfl,rfl⟩
theorem shape_appV (w0:World) (t a:Typ) (l:List Typ) (flex:Int) (h6:t.k = 6) (hv:validM t = true) (hl:t.l = a :: l) (hl0:l ≠ []) (hn:l.length ≤ 1000000) (h0:a.k = 0) (hlg:logicalB a.name = true) (hal:(l.length:Int) = argsM a.name) (σ:H) :
  DC Tryz.prog w0 125 [t.v,I flex] σ (Same (.tup [S a.name,.vec (σ.length + 3) l.length,I 0]) (σ ++ [.cells t.v.cellsV,.cells t.v.cellsV,.cells a.v.cellsV,.vec 30 4 (l.map Typ.cs).flatten,.cells a.v.cellsV])):=by
 refine k125.goN rfl (fun hok hsz=>?_)
 have hS:=fun σ=>split_appV w0 t a l h6 hv hl hl0 hn σ
 have hL:=fun σ=>sig_Logical w0 a.name σ
 rw [hlg] at hL
 have hA:=fun σ=>clause_args w0 a.name σ
 have k4:(a.k == 4) = false:=by simp [h0]
 have k3:(a.k == 3) = false:=by simp [h0]
 have k0:(a.k == 0) = true:=by simp [h0]
 have ka:((l.length:Int) == argsM a.name) = true:=by simp [hal]
 generalize argsM a.name = q at *
 generalize (l.map Typ.cs).flatten = F at *
 clear hl h6 hv h0 hlg hal hl0
 ((try refine W.a ?_);simp only [go_sem,seval,c125])
 (refine W.c1 (hS _) ?_;simp only [go_sem,seval])
 ((try refine W.a ?_);simp only [go_sem,seval,k4,k3])
 refine W.no rfl (W.a ?_)
 simp only [go_sem,seval,bne,k0]
 refine W.no rfl (W.a ?_)
 simp only [go_sem,seval]
 (refine W.c1 (hL _) ?_;simp only [go_sem,seval])
 ((try refine W.a ?_);simp only [go_sem,seval])
 refine W.no rfl (W.a ?_)
 simp only [go_sem,seval]
 (refine W.c1 (hA _) ?_;simp only [go_sem,seval])
 ((try refine W.a ?_);simp only [go_sem,seval,bne,ka])
 refine W.no rfl (W.a ?_)
 simp only [go_sem,seval]
 refine W.ret ⟨_,_,(by simp only [resEval,r125,go_sem,seval];rfl),.rfl _,?_⟩
 exact ⟨rfl,rfl⟩
theorem two_flat (x y:Typ):([x,y].map Typ.cs).flatten = [C.int .i64 x.k,C.str x.name,C.int .i64 x.n,C.sl (x.l.map Typ.cs),C.int .i64 y.k,C.str y.name,C.int .i64 y.n,C.sl (y.l.map Typ.cs)]:=by
 simp only [List.map_cons,List.map_nil,Typ.cs_eq,List.flatten_cons,List.flatten_nil,List.cons_append,List.nil_append,List.append_nil]
theorem ok_setV {σ:H} (h:H.ok σ) (m e n:Nat) (cs:List C):H.ok (σ.set m (.vec e n cs)):=by
 intro b hb cs' tg hc x hx
 rw [List.length_set]
 rcases List.mem_or_eq_of_mem_set hb with hb | hb
 ·exact h b hb cs' tg hc x hx
 ·rw [hb] at hc;cases hc
theorem reverse_two (w0:World) (x y:Typ) (σ:H) (b:Nat) (hb:σ[b]? = some (.vec 30 4 ([x,y].map Typ.cs).flatten)):DC Tryz.prog w0 282 [.vec b 2] σ (Same (.tup []) (σ.set b (.vec 30 4 ([y,x].map Typ.cs).flatten))):=by
 refine k282.go rfl (fun hok hsz=>?_)
 rw [two_flat] at hb ⊢
 have hlt:=(List.getElem?_eq_some_iff.1 hb).1
 have hE:=set_here hb
 have hs:∀ X,(σ.set b X)[b]? = some X:=fun X=>hgets X hlt
 have hw0:IntKind.i64.wrap (((2:Nat):Int) - 1) = 1:=by decide
 have hw1:IntKind.i64.wrap (2 - 1) = 1:=by decide
 have hw2:IntKind.i64.wrap (0 + 1) = 1:=by decide
 have hw3:IntKind.i64.wrap (1 - 1) = 0:=by decide
 ((try refine W.a ?_);simp only [go_sem,seval,c282,hw0,hw1])
 refine W.loopP (α:=Bool) (fun _=>True) (fun d=>⟨(((base.put (some 0) (.vec b 2)).put (some 2) (I (if d then 1 else 0))).put (some 3) (I (if d then 0 else 1))),if d then σ.set b (.vec 30 4 ([C.int .i64 y.k,C.str y.name,C.int .i64 y.n,C.sl (y.l.map Typ.cs),C.int .i64 x.k,C.str x.name,C.int .i64 x.n,C.sl (x.l.map Typ.cs)])) else σ⟩) (fun d=>if d then 0 else 1) false trivial ?_ (fun d _=>?_)
 ·simp only [Bool.false_eq_true,if_false]
  (refine Lew.env ?_;exact lee_here)
 cases d
 ·simp only [Bool.false_eq_true,if_false]
  ((try refine W.a ?_);simp only [go_sem,seval])
  refine W.yes rfl (W.a ?_);simp only [go_sem,seval];apply W.dregE (List.cons_ne_nil _ _)
  case hc=>
   (apply CanonE.advPO;simp only [go_sem,seval,hb,hs])
   exact CanonE.nil
  ((try refine W.a ?_);simp only [go_sem,seval,hw2,hw3])
  refine .inv ⟨true,by simp,?_⟩
  simp only [if_true]
  (refine Lew.env ?_;exact lee_here)
 ·simp only [if_true]
  ((try refine W.a ?_);simp only [go_sem,seval])
  refine W.no rfl (W.a ?_);simp only [go_sem,seval]
  (refine W.done (Fin.sameW (ok_setV hok b _ _ _) (by (first | rfl | assumption | exact List.length_set .. | simp)) (by simp only [r282,go_sem,seval];rfl) ?_ (by (first | exact .c _ | (simp only [go_sem,seval];done))) (by (first | rfl | exact (List.append_nil _).symm)));simp only [resV];try exact V.wk.rfl _)
end
section
def goalT (G:Typ → Int) (K:Typ → Int) (s:Str × List Typ × Int):Int:=
 if s.2.2 ≠ 0 then s.2.2
 else if s.1 = [58,45] then 130
 else if s.1 = [44] ∨ s.1 = [59] then (if G (s.2.1.getD 0 .none) ≠ 0 then G (s.2.1.getD 0 .none) else G (s.2.1.getD 1 .none))
 else if s.1 = [61,62] then (if K (s.2.1.getD 0 .none) ≠ 0 then K (s.2.1.getD 0 .none) else G (s.2.1.getD 1 .none))
 else if s.1 = [112,105] ∨ s.1 = [115,105,103,109,97] then G (bodyM (s.2.1.getD 0 .none))
 else 0
theorem goalS_T (G K:Typ → Int) (t:Typ):goalS G K t = goalT G K (shapeM 133 t):=by
 unfold goalS shapeM
 split
 ·rfl
 split
 ·rfl
 split
 ·rfl
 split
 ·rfl
 rfl
def claT (G:Typ → Int) (K:Int → Typ → List Typ → List Cla × Int) (any:Bool) (vars:Int) (t:Typ) (goals:List Typ) (s:Str × List Typ × Int):List Cla × Int:=
 if s.2.2 ≠ 0 then ([],s.2.2)
 else if s.1 = [] then (if any = false ∧ s.2.1.all (patM 0) = false then ([],132) else ([⟨vars,t,bodyOf goals⟩],0))
 else if s.1 = [44] then (if (K vars (s.2.1.getD 0 .none) goals).2 ≠ 0 then K vars (s.2.1.getD 0 .none) goals else ((K vars (s.2.1.getD 0 .none) goals).1 ++ (K vars (s.2.1.getD 1 .none) goals).1,(K vars (s.2.1.getD 1 .none) goals).2))
 else if s.1 = [112,105] then K (vars + 1) (bodyM (s.2.1.getD 0 .none)) (goals.map (shiftM 0 1))
 else if s.1 = [58,45] then (if G (s.2.1.getD 1 .none) ≠ 0 then ([],G (s.2.1.getD 1 .none)) else K vars (s.2.1.getD 0 .none) (goals ++ [s.2.1.getD 1 .none]))
 else if s.1 = [61,62] then (if G (s.2.1.getD 0 .none) ≠ 0 then ([],G (s.2.1.getD 0 .none)) else K vars (s.2.1.getD 1 .none) (goals ++ [s.2.1.getD 0 .none]))
 else ([],131)
theorem claS_T (G:Typ → Int) (K:Int → Typ → List Typ → List Cla × Int) (any:Bool) (vars:Int) (t:Typ) (goals:List Typ):claS G K any vars t goals = claT G K any vars t goals (shapeM 131 t):=by
 unfold claS shapeM
 split
 ·rfl
 split
 ·rfl
 split
 ·rfl
 split
 ·rfl
 ·rename_i _ _ hlg _
  have hne:(hd t).name ≠ []:=fun e=>by
   rw [e] at hlg;exact hlg (by decide)
  show _ = claT G K any vars t goals ((hd t).name,(splitM t).2,0)
  unfold claT;simp only;rw [if_neg (show ¬ (0:Int) ≠ 0 by decide),if_neg hne]
  rfl
theorem shape_args {n d:Nat} {t:Typ} {flex:Int} {nm:Str} {l:List Typ} (hf:FitM (n + 1) d t) (hs:shapeM flex t = (nm,l,0)) (hfx:flex ≠ 0) (hnm:nm ≠ []):(l.length:Int) = argsM nm ∧ (∀ u ∈ l,FitM n d u ∧ nodesM u + 2 ≤ nodesM t) ∧ (hd t).k = 0 ∧ (hd t).name = nm ∧ logicalB nm = true ∧ (splitM t).2 = l:=by
 unfold shapeM at hs
 split at hs
 ·injection hs with h1 h2;injection h2 with _ h3;exact absurd h3 hfx
 split at hs
 ·injection hs with h1 h2;exact absurd h1.symm hnm
 split at hs
 ·injection hs with h1 h2;exact absurd h1.symm hnm
 split at hs
 ·injection hs with h1 h2;exact absurd h1.symm hnm
 ·rename_i c1 c2 c3 c4
  injection hs with h1 h2
  injection h2 with h2 _
  subst h1 h2
  have h0:(hd t).k = 0:=by omega
  refine ⟨by omega,fun u hu=>?_,h0,rfl,by simpa using c3,rfl⟩
  obtain ⟨i,hi,rfl⟩:=List.getElem_of_mem hu
  have e:ar t i = (splitM t).2[i]:=by
   unfold ar;rw [List.getD_eq_getElem?_getD,List.getElem?_eq_getElem hi,Option.getD_some]
  rw [← e];exact ⟨(hd_args hf h0 i hi).1,arg_nodes hf.valid i hi⟩
theorem list_two {l:List Typ} (h:(l.length:Int) = 2):∃ a b,l = [a,b]:=by
 match l,h with
 | [a,b],_=>exact ⟨a,b,rfl⟩
 | [],h=>simp at h
 | [a],h=>simp at h
 | a :: b :: c :: l,h=>simp at h;omega
theorem list_one {l:List Typ} (h:(l.length:Int) = 1):∃ a,l = [a]:=by
 match l,h with
 | [a],_=>exact ⟨a,rfl⟩
 | [],h=>simp at h
 | a :: b :: l,h=>simp at h;omega
attribute [local go_sem] Typ.v Typ.cs_eq tk_mk tname_mk tn_mk tl_mk tysC
theorem goal_step (w0:World) {n d:Nat} (hd':d ≤ 60000) (hG:∀ e u,e ≤ d + 1 → FitM n e u → ∀ σ,DC Tryz.prog w0 45 [u.v] σ (Same (I ((clF n).1 u)) σ))
  (hC:∀ u,FitM n d u → ∃ rows:List (List C),∀ σ,DC Tryz.prog w0 41 [u.v] σ (Same (.tup [.c (.sl rows),I ((clF n).2 false 0 u []).2]) σ)) (t:Typ) (hf:FitM (n + 1) d t) (σ:H) :
  DC Tryz.prog w0 45 [t.v] σ (Same (I ((clF (n + 1)).1 t)) σ):=by
 refine k45.go rfl (fun hok hsz=>?_)
 have hV:=fun σ=>term_Valid w0 t σ
 rw [hf.valid] at hV
 have hS:=fun σ=>clause_shape w0 t 133 hf.valid (by have:=hf.nodes;omega) σ
 have hEq:(clF (n + 1)).1 t = goalT (clF n).1 (fun t=>((clF n).2 false 0 t []).2) (shapeM 133 t):=goalS_T (clF n).1 (fun t=>((clF n).2 false 0 t []).2) t
 rw [hEq]
 clear hEq
 generalize hsE:shapeM 133 t = s at *
 obtain ⟨nm,l,e⟩:=s
 unfold goalT
 simp only at hS ⊢
 by_cases he:¬ e = 0
 ·rw [if_pos he]
  have ke:(e == 0) = false:=by simp [he]
  clear he
  (refine W.a ?_;simp only [go_sem,seval,c45])
  (refine W.c1 (hV _) ?_;simp only [go_sem,seval])
  refine W.no rfl (W.a ?_);simp only [go_sem,seval]
  (refine W.c1 (hS _) ?_;simp only [go_sem,seval])
  (refine W.a ?_;simp only [go_sem,seval,bne,ke])
  refine W.yes rfl (W.a ?_);simp only [go_sem,seval]
  (refine W.fs (hok) (by simp only [r45,go_sem,seval];rfl) ?_;simp only [resV];try exact V.wk.rfl _)
 obtain rfl:e = 0:=Decidable.of_not_not he
 clear he
 rw [if_neg (by decide)]
 have hq:=fun hne=>shape_args (n:=n) (d:=d) hf hsE (by decide) hne
 by_cases h1:nm = [58,45]
 ·subst h1
  rw [if_pos rfl];clear hq
  have hx0:=True.intro
  have hx1:=True.intro
  (refine W.a ?_;simp only [go_sem,seval,c45])
  (refine W.c1 (hV _) ?_;simp only [go_sem,seval])
  refine W.no rfl (W.a ?_);simp only [go_sem,seval]
  (refine W.c1 (hS _) ?_;simp only [go_sem,seval])
  (refine W.a ?_;simp only [go_sem,seval,bne])
  refine W.no rfl (W.a ?_);simp only [go_sem,seval]
  repeat (first | (refine W.yes rfl ?_;(refine W.a ?_;simp only [go_sem,seval,hx0,hx1])) | (refine W.no rfl ?_;(refine W.a ?_;simp only [go_sem,seval,hx0,hx1])))
  (refine W.fs (hok) (by simp only [r45,go_sem,seval];rfl) ?_;simp only [resV];try exact V.wk.rfl _)
 rw [if_neg h1]
 by_cases h2:nm = [44]
 ·subst h2
  rw [if_pos (.inl rfl)];obtain ⟨hlen,hfit,_⟩:=hq (by decide)
  obtain ⟨a,b,rfl⟩:=list_two (hlen.trans rfl)
  have hGa:=hG d a (by omega) (hfit a (by simp)).1
  have hGb:=hG d b (by omega) (hfit b (by simp)).1
  have ea:([a,b]:List Typ).getD 0 .none = a:=rfl
  have eb:([a,b]:List Typ).getD 1 .none = b:=rfl
  rw [ea,eb];generalize (clF n).1 a = ra at *;generalize (clF n).1 b = rb at *
  have hx0:=Int.zero_lt_one
  have hx1:=True.intro
  clear hq hG hC hfit hlen h1;simp only [List.map_cons,List.map_nil] at hS
  (refine W.a ?_;simp only [go_sem,seval,c45])
  (refine W.c1 (hV _) ?_;simp only [go_sem,seval])
  refine W.no rfl (W.a ?_);simp only [go_sem,seval]
  (refine W.c1 (hS _) ?_;simp only [go_sem,seval])
  (refine W.a ?_;simp only [go_sem,seval,bne])
  refine W.no rfl (W.a ?_);simp only [go_sem,seval]
  repeat (first | (refine W.yes rfl ?_;(refine W.a ?_;simp only [go_sem,seval,hx0,hx1])) | (refine W.no rfl ?_;(refine W.a ?_;simp only [go_sem,seval,hx0,hx1])))
  (refine W.c1 (hGa _) ?_;simp only [go_sem,seval])
  by_cases hr:ra = 0
  ·have kr:(ra == 0) = true:=by simp [hr]
   rw [if_neg (fun e=>e hr)]
   clear hr
   (refine W.a ?_;simp only [go_sem,seval,bne,kr])
   refine W.no rfl (W.a ?_);simp only [go_sem,seval]
   (refine W.c1 (hGb _) ?_;simp only [go_sem,seval])
   (refine W.a ?_;simp only [go_sem,seval])
   (refine W.fs (hok) (by simp only [r45,go_sem,seval];rfl) ?_;simp only [resV];try exact V.wk.rfl _)
  ·have kr:(ra == 0) = false:=by simp [hr]
   rw [if_pos hr];clear hr
   (refine W.a ?_;simp only [go_sem,seval,bne,kr])
   refine W.yes rfl (W.a ?_);simp only [go_sem,seval]
   (refine W.fs (hok) (by simp only [r45,go_sem,seval];rfl) ?_;simp only [resV];try exact V.wk.rfl _)
 by_cases h3:nm = [59]
 ·subst h3
  rw [if_pos (.inr rfl)];obtain ⟨hlen,hfit,_⟩:=hq (by decide)
  obtain ⟨a,b,rfl⟩:=list_two (hlen.trans rfl)
  have hGa:=hG d a (by omega) (hfit a (by simp)).1
  have hGb:=hG d b (by omega) (hfit b (by simp)).1
  have ea:([a,b]:List Typ).getD 0 .none = a:=rfl
  have eb:([a,b]:List Typ).getD 1 .none = b:=rfl
  rw [ea,eb];generalize (clF n).1 a = ra at *;generalize (clF n).1 b = rb at *
  have hx0:=Int.zero_lt_one
  have hx1:=True.intro
  clear hq hG hC hfit hlen h1 h2;simp only [List.map_cons,List.map_nil] at hS
  (refine W.a ?_;simp only [go_sem,seval,c45])
  (refine W.c1 (hV _) ?_;simp only [go_sem,seval])
  refine W.no rfl (W.a ?_);simp only [go_sem,seval]
  (refine W.c1 (hS _) ?_;simp only [go_sem,seval])
  (refine W.a ?_;simp only [go_sem,seval,bne])
  refine W.no rfl (W.a ?_);simp only [go_sem,seval]
  repeat (first | (refine W.yes rfl ?_;(refine W.a ?_;simp only [go_sem,seval,hx0,hx1])) | (refine W.no rfl ?_;(refine W.a ?_;simp only [go_sem,seval,hx0,hx1])))
  (refine W.c1 (hGa _) ?_;simp only [go_sem,seval])
  by_cases hr:ra = 0
  ·have kr:(ra == 0) = true:=by simp [hr]
   rw [if_neg (fun e=>e hr)]
   clear hr
   (refine W.a ?_;simp only [go_sem,seval,bne,kr])
   refine W.no rfl (W.a ?_);simp only [go_sem,seval]
   (refine W.c1 (hGb _) ?_;simp only [go_sem,seval])
   (refine W.a ?_;simp only [go_sem,seval])
   (refine W.fs (hok) (by simp only [r45,go_sem,seval];rfl) ?_;simp only [resV];try exact V.wk.rfl _)
  ·have kr:(ra == 0) = false:=by simp [hr]
   rw [if_pos hr];clear hr
   (refine W.a ?_;simp only [go_sem,seval,bne,kr])
   refine W.yes rfl (W.a ?_);simp only [go_sem,seval]
   (refine W.fs (hok) (by simp only [r45,go_sem,seval];rfl) ?_;simp only [resV];try exact V.wk.rfl _)
 rw [if_neg (fun e=>e.elim h2 h3)]
 by_cases h4:nm = [61,62]
 ·subst h4
  rw [if_pos rfl];obtain ⟨hlen,hfit,_⟩:=hq (by decide)
  obtain ⟨a,b,rfl⟩:=list_two (hlen.trans rfl);obtain ⟨rows,hCa⟩:=hC a (hfit a (by simp)).1
  have hGb:=hG d b (by omega) (hfit b (by simp)).1
  have ea:([a,b]:List Typ).getD 0 .none = a:=rfl
  have eb:([a,b]:List Typ).getD 1 .none = b:=rfl
  rw [ea,eb];generalize ((clF n).2 false 0 a []).2 = ra at *;generalize (clF n).1 b = rb at *
  have hx0:=Int.zero_lt_one
  have hx1:=True.intro
  clear hq hG hC hfit hlen h1 h2 h3;simp only [List.map_cons,List.map_nil] at hS
  (refine W.a ?_;simp only [go_sem,seval,c45])
  (refine W.c1 (hV _) ?_;simp only [go_sem,seval])
  refine W.no rfl (W.a ?_);simp only [go_sem,seval]
  (refine W.c1 (hS _) ?_;simp only [go_sem,seval])
  (refine W.a ?_;simp only [go_sem,seval,bne])
  refine W.no rfl (W.a ?_);simp only [go_sem,seval]
  repeat (first | (refine W.yes rfl ?_;(refine W.a ?_;simp only [go_sem,seval,hx0,hx1])) | (refine W.no rfl ?_;(refine W.a ?_;simp only [go_sem,seval,hx0,hx1])))
  (refine W.c1 (hCa _) ?_;simp only [go_sem,seval])
  by_cases hr:ra = 0
  ·have kr:(ra == 0) = true:=by simp [hr]
   rw [if_neg (fun e=>e hr)]
   clear hr
   (refine W.a ?_;simp only [go_sem,seval,bne,kr])
   refine W.no rfl (W.a ?_);simp only [go_sem,seval]
   (refine W.c1 (hGb _) ?_;simp only [go_sem,seval])
   (refine W.a ?_;simp only [go_sem,seval])
   (refine W.fs (hok) (by simp only [r45,go_sem,seval];rfl) ?_;simp only [resV];try exact V.wk.rfl _)
  ·have kr:(ra == 0) = false:=by simp [hr]
   rw [if_pos hr];clear hr
   (refine W.a ?_;simp only [go_sem,seval,bne,kr])
   refine W.yes rfl (W.a ?_);simp only [go_sem,seval]
   (refine W.fs (hok) (by simp only [r45,go_sem,seval];rfl) ?_;simp only [resV];try exact V.wk.rfl _)
 rw [if_neg h4]
 by_cases h5:nm = [112,105]
 ·subst h5
  rw [if_pos (.inl rfl)];obtain ⟨hlen,hfit,_⟩:=hq (by decide)
  obtain ⟨a,rfl⟩:=list_one (hlen.trans rfl);obtain ⟨fa,na⟩:=hfit a (by simp)
  have hnt:=hf.nodes
  have hBa:=fun σ=>clause_Body w0 a fa.valid (by omega) (near_more (by omega) a fa.near) σ
  have hGa:=hG (d + 1) (bodyM a) (Nat.le_refl _) (bodyM_fit fa (by omega) (by omega)).1
  have ea:([a]:List Typ).getD 0 .none = a:=rfl
  rw [ea];generalize (clF n).1 (bodyM a) = ra at *;generalize bodyM a = ba at *
  have hx0:=Int.zero_lt_one
  have hx1:=True.intro
  clear hq hG hC hfit hlen h1 h2 h3 h4;simp only [List.map_cons,List.map_nil] at hS
  (refine W.a ?_;simp only [go_sem,seval,c45])
  (refine W.c1 (hV _) ?_;simp only [go_sem,seval])
  refine W.no rfl (W.a ?_);simp only [go_sem,seval]
  (refine W.c1 (hS _) ?_;simp only [go_sem,seval])
  (refine W.a ?_;simp only [go_sem,seval,bne])
  refine W.no rfl (W.a ?_);simp only [go_sem,seval]
  repeat (first | (refine W.yes rfl ?_;(refine W.a ?_;simp only [go_sem,seval,hx0,hx1])) | (refine W.no rfl ?_;(refine W.a ?_;simp only [go_sem,seval,hx0,hx1])))
  (refine W.c1 (hBa _) ?_;simp only [go_sem,seval])
  (refine W.a ?_;simp only [go_sem,seval])
  (refine W.c1 (hGa _) ?_;simp only [go_sem,seval])
  (refine W.a ?_;simp only [go_sem,seval])
  (refine W.fs (hok) (by simp only [r45,go_sem,seval];rfl) ?_;simp only [resV];try exact V.wk.rfl _)
 by_cases h6:nm = [115,105,103,109,97]
 ·subst h6
  rw [if_pos (.inr rfl)];obtain ⟨hlen,hfit,_⟩:=hq (by decide)
  obtain ⟨a,rfl⟩:=list_one (hlen.trans rfl);obtain ⟨fa,na⟩:=hfit a (by simp)
  have hnt:=hf.nodes
  have hBa:=fun σ=>clause_Body w0 a fa.valid (by omega) (near_more (by omega) a fa.near) σ
  have hGa:=hG (d + 1) (bodyM a) (Nat.le_refl _) (bodyM_fit fa (by omega) (by omega)).1
  have ea:([a]:List Typ).getD 0 .none = a:=rfl
  rw [ea];generalize (clF n).1 (bodyM a) = ra at *;generalize bodyM a = ba at *
  have hx0:=Int.zero_lt_one
  have hx1:=True.intro
  clear hq hG hC hfit hlen h1 h2 h3 h4 h5;simp only [List.map_cons,List.map_nil] at hS
  (refine W.a ?_;simp only [go_sem,seval,c45])
  (refine W.c1 (hV _) ?_;simp only [go_sem,seval])
  refine W.no rfl (W.a ?_);simp only [go_sem,seval]
  (refine W.c1 (hS _) ?_;simp only [go_sem,seval])
  (refine W.a ?_;simp only [go_sem,seval,bne])
  refine W.no rfl (W.a ?_);simp only [go_sem,seval]
  repeat (first | (refine W.yes rfl ?_;(refine W.a ?_;simp only [go_sem,seval,hx0,hx1])) | (refine W.no rfl ?_;(refine W.a ?_;simp only [go_sem,seval,hx0,hx1])))
  (refine W.c1 (hBa _) ?_;simp only [go_sem,seval])
  (refine W.a ?_;simp only [go_sem,seval])
  (refine W.c1 (hGa _) ?_;simp only [go_sem,seval])
  (refine W.a ?_;simp only [go_sem,seval])
  (refine W.fs (hok) (by simp only [r45,go_sem,seval];rfl) ?_;simp only [resV];try exact V.wk.rfl _)
 rw [if_neg (fun e=>e.elim h5 h6)]
 have k1:(nm == [58,45]) = false:=by simpa using h1
 have k2:(nm == [44]) = false:=by simpa using h2
 have k3:(nm == [59]) = false:=by simpa using h3
 have k4:(nm == [61,62]) = false:=by simpa using h4
 have k5:(nm == [112,105]) = false:=by simpa using h5
 have k6:(nm == [115,105,103,109,97]) = false:=by simpa using h6
 clear h1 h2 h3 h4 h5 h6 hq hG hC
 (refine W.a ?_;simp only [go_sem,seval,c45])
 (refine W.c1 (hV _) ?_;simp only [go_sem,seval])
 refine W.no rfl (W.a ?_)
 simp only [go_sem,seval]
 (refine W.c1 (hS _) ?_;simp only [go_sem,seval])
 (refine W.a ?_;simp only [go_sem,seval,bne])
 refine W.no rfl (W.a ?_)
 simp only [go_sem,seval,k1,k2,k3,k4,k5,k6]
 repeat (refine W.no rfl ?_;(refine W.a ?_;simp only [go_sem,seval,k1,k2,k3,k4,k5,k6]))
 (refine W.fs (hok) (by simp only [r45,go_sem,seval];rfl) ?_;simp only [resV];try exact V.wk.rfl _)
end
section
structure TellC (w0:World) (τ:List Cla → H) (M:Nat) (fid:FuncId) (caps:List V):Prop where
 len:∀ a,(τ a).length = M
 ok:∀ a b X,H.ok (τ a ++ X) → H.ok (τ b ++ X)
 low:∀ x ∈ caps,V.low M x
 tell:∀ a c X,a.length ≤ 1000000 → DC Tryz.prog w0 fid (c.v :: caps) (τ a ++ X) (Same (.tup []) (τ (a ++ [c]) ++ X))
structure FitG (d:Nat) (gs:List Typ):Prop where
 len:gs.length ≤ 1000
 all:∀ g ∈ gs,validM g = true ∧ nearM (1099511627776 + d) g = true ∧ nodesM g ≤ 300
theorem FitG.under {d:Nat} {gs:List Typ} (h:FitG d gs) (hd':d ≤ 60000):FitG (d + 1) (gs.map (shiftM 0 1)):=by
 refine ⟨by rw [List.length_map];exact h.len,fun g hg=>?_⟩
 obtain ⟨u,hu,rfl⟩:=List.mem_map.1 hg
 obtain ⟨a1,a2,a3⟩:=h.all u hu
 obtain ⟨b1,b2⟩:=shift_valid (a:=0) (b:=1) (m:=1099511627776 + d) (by omega) (by omega) (by omega) (by omega) u 0 (by omega) a1 a2
 have b3:=shift_nodes 0 1 u 0
 have e:walkM (shiftF 0 1) ((0:Nat):Int) u = shiftM 0 1 u:=rfl
 rw [e] at b3
 refine ⟨b1,?_,by omega⟩
 rw [Int.add_assoc] at b2
 exact b2
theorem claF_len:∀ (n:Nat) (any:Bool) (v:Int) (d:Nat) (t:Typ) (gs:List Typ),d + n ≤ 60000 → FitM n d t → ((clF n).2 any v t gs).1.length ≤ nodesM t
 | 0,any,v,d,t,gs,_,hf=>absurd hf.consts (Nat.not_lt_zero _)
 | n + 1,any,v,d,t,gs,hd',hf=>by
   have ih:=claF_len n any
   have hp:=nodesM_pos t
   have hnt:=hf.nodes
   show (claS (clF n).1 ((clF n).2 any) any v t gs).1.length ≤ _
   rw [claS_T];generalize hsE:shapeM 131 t = s;obtain ⟨nm,l,e⟩:=s;unfold claT;simp only
   by_cases he:¬ e = 0
   ·rw [if_pos he];exact Nat.zero_le _
   obtain rfl:e = 0:=Decidable.of_not_not he;rw [if_neg he]
   by_cases h0:nm = []
   ·rw [if_pos h0]
    split
    ·exact Nat.zero_le _
    ·exact hp
   rw [if_neg h0];obtain ⟨q1,q2,q3,q4,q5,q6⟩:=shape_args hf hsE (by decide) h0
   split
   ·rename_i h;subst h
    obtain ⟨a,b,rfl⟩:=list_two (q1.trans rfl)
    have hsum:nodesM a + nodesM b ≤ nodesM t:=by
     by_cases h6:t.k = 6
     ·obtain ⟨_,_,x,y,r,hl,_⟩:=valid_app hf.valid h6
      unfold splitM at q6;rw [if_pos h6,hl] at q6;simp only [List.tail_cons] at q6;injection q6 with e1 q6
      subst e1
      have h3:=nodesM_eq t
      rw [hl,nodesMs,nodesMs,q6,nodesMs,nodesMs] at h3;omega
     ·unfold splitM at q6
      rw [if_neg h6] at q6
      cases q6
    have h1:=ih v d a gs (by omega) (q2 a (by simp)).1
    have h2:=ih v d b gs (by omega) (q2 b (by simp)).1
    have ea:([a,b]:List Typ).getD 0 .none = a:=rfl
    have eb:([a,b]:List Typ).getD 1 .none = b:=rfl
    rw [ea,eb];split
    ·omega
    ·simp only [List.length_append];omega
   split
   ·rename_i h;subst h
    obtain ⟨a,rfl⟩:=list_one (q1.trans rfl);obtain ⟨fa,na⟩:=q2 a (by simp)
    have hb:=bodyM_fit fa (by omega) (by omega)
    have h1:=ih (v + 1) (d + 1) (bodyM a) (gs.map (shiftM 0 1)) (by omega) hb.1
    have ea:([a]:List Typ).getD 0 .none = a:=rfl
    rw [ea]
    have:=hb.2
    omega
   split
   ·rename_i h;subst h
    obtain ⟨a,b,rfl⟩:=list_two (q1.trans rfl);obtain ⟨fa,na⟩:=q2 a (by simp)
    split
    ·exact Nat.zero_le _
    ·have h1:=ih v d a (gs ++ [([a,b]:List Typ).getD 1 .none]) (by omega) fa
     have ea:([a,b]:List Typ).getD 0 .none = a:=rfl
     rw [ea];omega
   split
   ·rename_i h;subst h
    obtain ⟨a,b,rfl⟩:=list_two (q1.trans rfl);obtain ⟨fb,nb⟩:=q2 b (by simp)
    split
    ·exact Nat.zero_le _
    ·have h1:=ih v d b (gs ++ [([a,b]:List Typ).getD 0 .none]) (by omega) fb
     have eb:([a,b]:List Typ).getD 1 .none = b:=rfl
     rw [eb];omega
   exact Nat.zero_le _
theorem two_parts {t a b:Typ} (hv:validM t = true) (h:(splitM t).2 = [a,b]):∃ x,t.k = 6 ∧ t.l = [x,a,b] ∧ hd t = x:=by
 unfold hd
 by_cases h6:t.k = 6
 ·obtain ⟨_,_,x,y,r,hl,_⟩:=valid_app hv h6
  have e:splitM t = (x,y :: r):=by unfold splitM;rw [if_pos h6,hl];rfl
  rw [e] at h ⊢;simp only at h;rw [h] at hl;exact ⟨x,h6,hl,rfl⟩
 ·unfold splitM at h
  rw [if_neg h6] at h
  cases h
theorem two_nodes {t a b:Typ} (hv:validM t = true) (h:(splitM t).2 = [a,b]):nodesM a + nodesM b ≤ nodesM t:=by
 obtain ⟨x,_,hl,_⟩:=two_parts hv h
 have h3:=nodesM_eq t
 rw [hl,nodesMs,nodesMs,nodesMs,nodesMs] at h3
 omega
theorem shape_none {t:Typ} {flex:Int} {l:List Typ} (hs:shapeM flex t = ([],l,0)) (hfx:flex ≠ 0):(splitM t).2 = l:=by
 unfold shapeM at hs
 split at hs
 ·injection hs with h1 h2;injection h2 with _ h3;exact absurd h3 hfx
 split at hs
 ·injection hs with h1 h2;injection h2 with _ h3;exact absurd h3 (by decide)
 split at hs
 ·injection hs with h1 h2;injection h2
 split at hs
 ·injection hs with h1 h2;injection h2 with _ h3;exact absurd h3 (by decide)
 ·injection hs with h1 h2;injection h2
theorem FitG.snoc {d n:Nat} {gs:List Typ} {g:Typ} (h:FitG d gs) (hg:FitM n d g) (hl:gs.length + 1 ≤ 1000):FitG d (gs ++ [g]):=by
 refine ⟨by rw [List.length_append];exact hl,fun u hu=>?_⟩
 rcases List.mem_append.1 hu with hu | hu
 ·exact h.all u hu
 ·simp at hu
  subst hu;exact ⟨hg.valid,hg.near,hg.nodes⟩
attribute [local go_sem] Typ.v Typ.cs_eq tk_mk tname_mk tn_mk tl_mk tysC arV Cla.v
theorem each1 (w0:World) (u:Typ) (hv:validM u = true) (hn:nodesM u ≤ 300) (σ:H):DC Tryz.prog w0 278 [u.v] σ (Same (B (!patM 0 u)) σ):=by
 refine k278.go rfl (fun hok hsz=>?_)
 have hP:=fun σ=>clause_pattern w0 u hv 0 (by omega) σ
 have e:(((0:Nat):Int)) = 0:=rfl
 rw [e] at hP
 generalize patM 0 u = z at *
 (refine W.a ?_;simp only [go_sem,seval,c278])
 (refine W.c1 (hP _) ?_;simp only [go_sem,seval])
 (refine W.a ?_;simp only [go_sem,seval])
 (refine W.fs (hok) (by simp only [r278,go_sem,seval];rfl) ?_;simp only [resV];try exact V.wk.rfl _)
theorem each_step {w0:World} {τ:List Cla → H} {M:Nat} {fid:FuncId} {caps:List V} (hT:TellC w0 τ M fid caps) {n d:Nat} (hd':d + n ≤ 50000)
  (hG:∀ u,FitM n d u → ∀ σ,DC Tryz.prog w0 45 [u.v] σ (Same (I ((clF n).1 u)) σ))
  (hE:∀ any (e:Nat) (v:Int) (gs:List Typ) (u:Typ) (acc:List Cla) (X:H),e ≤ d + 1 → FitM n e u → 0 ≤ v → v + n ≤ 100000 → FitG e gs → gs.length + n ≤ 1000 → acc.length + nodesM u ≤ 900000 → DC Tryz.prog w0 217 [u.v,arV v gs any,.fn fid caps] (τ acc ++ X) (Same (I ((clF n).2 any v u gs).2) (τ (acc ++ ((clF n).2 any v u gs).1) ++ X)))
  (any:Bool) (v:Int) (gs:List Typ) (t:Typ) (acc:List Cla) (X:H) (hf:FitM (n + 1) d t) (hv0:0 ≤ v) (hv1:v + (n + 1:Nat) ≤ 100000) (hgs:FitG d gs) (hgl:gs.length + (n + 1) ≤ 1000) (hacc:acc.length + nodesM t ≤ 900000) :
  DC Tryz.prog w0 217 [t.v,arV v gs any,.fn fid caps] (τ acc ++ X) (Same (I ((clF (n + 1)).2 any v t gs).2) (τ (acc ++ ((clF (n + 1)).2 any v t gs).1) ++ X)):=by
 refine k217.go rfl (fun hok hsz=>?_)
 have hS:=fun σ=>clause_shape w0 t 131 hf.valid (by have:=hf.nodes;omega) σ
 have hEq:(clF (n + 1)).2 any v t gs = claT (clF n).1 ((clF n).2 any) any v t gs (shapeM 131 t):=claS_T (clF n).1 ((clF n).2 any) any v t gs
 rw [hEq]
 clear hEq
 have hnt:=hf.nodes
 have hp:=nodesM_pos t
 have hlen0:∀ a,(τ a ++ X).length = M + X.length:=fun a=>by rw [List.length_append,hT.len]
 have hok0:∀ a,H.ok (τ a ++ X):=fun a=>hT.ok acc a X hok
 have htell:∀ (a:List Cla) (c:Cla) (L:H),a.length ≤ 1000000 → DC Tryz.prog w0 fid (c.v :: caps) (τ a ++ X ++ L) (Same (.tup []) (τ (a ++ [c]) ++ X ++ L)):=fun a c L ha=>by
  have:=hT.tell a c (X ++ L) ha
  rwa [← List.append_assoc,← List.append_assoc] at this
 have hE':∀ (e:Nat) (v:Int) (gs:List Typ) (u:Typ) (a:List Cla) (L:H),e ≤ d + 1 → FitM n e u → 0 ≤ v → v + n ≤ 100000 → FitG e gs → gs.length + n ≤ 1000 → a.length + nodesM u ≤ 900000 → DC Tryz.prog w0 217 [u.v,arV v gs any,.fn fid caps] (τ a ++ X ++ L) (Same (I ((clF n).2 any v u gs).2) (τ (a ++ ((clF n).2 any v u gs).1) ++ X ++ L)):=fun e v gs u a L h1 h2 h3 h4 h5 h6 h7=>by
  have:=hE any e v gs u a (X ++ L) h1 h2 h3 h4 h5 h6 h7
  rwa [← List.append_assoc,← List.append_assoc] at this
 clear hE hok
 have hcl:∀ e u gs v,e ≤ d + 1 → FitM n e u → ((clF n).2 any v u gs).1.length ≤ nodesM u:=fun e u gs v h1 h2=>claF_len n any v e u gs (by omega) h2
 generalize hUe:(fun a=>τ a ++ X) = U at *
 have hUi:∀ a,τ a ++ X = U a:=fun a=>congrFun hUe a
 simp only [hUi] at *
 generalize M + X.length = m at *
 have tg0:∀ a x L,(U a ++ x :: L)[m]? = some x:=fun a=>at_g0 (hlen0 a)
 have tg:∀ a k L,(U a ++ L)[m + k]? = L[k]?:=fun a=>at_g (hlen0 a)
 have ts0:∀ a x L,(U a ++ L).set m x = U a ++ L.set 0 x:=fun a=>at_s0 (hlen0 a)
 have ts:∀ a k x L,(U a ++ L).set (m + k) x = U a ++ L.set k x:=fun a=>at_s (hlen0 a)
 have hm5:m + 2 + 3 = m + 5:=rfl
 clear hUe hUi
 generalize hsE:shapeM 131 t = s at *
 obtain ⟨nm,l,e⟩:=s
 unfold claT
 simp only at hS ⊢
 by_cases he:¬ e = 0
 ·rw [if_pos he]
  have ke:(e == 0) = false:=by simp [he]
  clear he;simp only [List.append_nil]
  (refine W.a ?_;simp only [go_sem,seval,c217,hlen0,tg0,tg,ts0,ts])
  (refine W.c1 (hS _) ?_;simp only [go_sem,seval,hlen0,tg0,tg,ts0,ts])
  (refine W.a ?_;simp only [go_sem,seval,bne,ke,hlen0,tg0,tg,ts0,ts])
  refine W.yes rfl (W.a ?_);simp only [go_sem,seval,hlen0,tg0,tg,ts0,ts]
  (refine W.fg (hok0 _) (d:=I e) (by simp only [r217,go_sem,seval];rfl) (by simp only [resV,go_sem,seval];exact wk_here) ?_ (hn:=(hlen0 _)))
  exact ⟨rfl,rfl⟩
 obtain rfl:e = 0:=Decidable.of_not_not he
 clear he
 rw [if_neg (by decide)]
 have hq:=fun hne=>shape_args (n:=n) (d:=d) hf hsE (by decide) hne
 by_cases h1:nm = []
 ·subst h1
  rw [if_pos rfl];obtain rfl:=shape_none hsE (by decide)
  have hlm:=fun u hu=>splitM_mem (t:=t) (u:=u) hf.valid hu
  have hll:=splitM_len hf.valid
  have hCF:=fun σ=>ContainsFunc_term w0 (splitM t).2 278 [] (fun u=>!patM 0 u) σ (fun u hu=>by
   have hm:=hlm u hu
   have:=nodesM_mem hm
   exact each1 w0 u (valid_kids hf.valid u hm) (by omega) σ)
  have hall:(splitM t).2.all (patM 0) = !(splitM t).2.any (fun u=>!patM 0 u):=by
   rw [List.not_any_eq_all_not];simp
  rw [hall];generalize (splitM t).2.any (fun u=>!patM 0 u) = z at *
  generalize (splitM t).2 = l at *
  have hB:=fun σ=>around_body w0 v gs any (by omega) σ
  have hTl:=fun L=>htell acc ⟨v,t,bodyOf gs⟩ L (by omega)
  simp only [Cla.v] at hTl;generalize bodyOf gs = bd at *;clear hq hG hE' hcl hlm hall
  cases any
  ·cases z
   ·rw [if_neg (by simp)]
    simp only
    (refine W.a ?_;simp only [go_sem,seval,c217,hlen0,tg0,tg,ts0,ts,hm5])
    (refine W.c1 (hS _) ?_;simp only [go_sem,seval,hlen0,tg0,tg,ts0,ts,hm5])
    (refine W.a ?_;simp only [go_sem,seval,bne,hlen0,tg0,tg,ts0,ts,hm5])
    refine W.no rfl (W.a ?_);simp only [go_sem,seval,hlen0,tg0,tg,ts0,ts,hm5];refine W.yes rfl (W.a ?_);simp only [go_sem,seval,hlen0,tg0,tg,ts0,ts,hm5]
    (refine W.c1 (hCF _) ?_;simp only [go_sem,seval,hlen0,tg0,tg,ts0,ts,hm5])
    (refine W.a ?_;simp only [go_sem,seval,hlen0,tg0,tg,ts0,ts,hm5])
    refine W.no rfl (W.a ?_);simp only [go_sem,seval,hlen0,tg0,tg,ts0,ts,hm5];apply W.dregE (List.cons_ne_nil _ _)
    case hc=>
     (apply CanonE.advPO;simp only [go_sem,seval,hlen0,tg0,tg,ts0,ts,hm5])
     (apply CanonE.call (hB _);(case hg=>rfl);(case hf=>rfl);(case ha=>first | rfl | simp))
     (apply CanonE.advPO;simp only [go_sem,seval,hlen0,tg0,tg,ts0,ts,hm5])
     (apply CanonE.call (hTl _);(case hg=>rfl);(case hf=>rfl);(case ha=>first | rfl | simp))
     (apply CanonE.advPO;simp only [go_sem,seval,hlen0,tg0,tg,ts0,ts,hm5])
     exact CanonE.nil
    (refine W.a ?_;simp only [go_sem,seval,hlen0,tg0,tg,ts0,ts,hm5])
    (refine W.fg (hok0 _) (d:=I 0) (by simp only [r217,go_sem,seval];rfl) (by simp only [resV,go_sem,seval];exact wk_here) ?_ (hn:=(hlen0 _)))
    exact ⟨rfl,rfl⟩
   ·rw [if_pos ⟨rfl,rfl⟩]
    simp only [List.append_nil]
    (refine W.a ?_;simp only [go_sem,seval,c217,hlen0,tg0,tg,ts0,ts,hm5])
    (refine W.c1 (hS _) ?_;simp only [go_sem,seval,hlen0,tg0,tg,ts0,ts,hm5])
    (refine W.a ?_;simp only [go_sem,seval,bne,hlen0,tg0,tg,ts0,ts,hm5])
    refine W.no rfl (W.a ?_);simp only [go_sem,seval,hlen0,tg0,tg,ts0,ts,hm5];refine W.yes rfl (W.a ?_);simp only [go_sem,seval,hlen0,tg0,tg,ts0,ts,hm5]
    (refine W.c1 (hCF _) ?_;simp only [go_sem,seval,hlen0,tg0,tg,ts0,ts,hm5])
    (refine W.a ?_;simp only [go_sem,seval,hlen0,tg0,tg,ts0,ts,hm5])
    refine W.yes rfl (W.a ?_);simp only [go_sem,seval,hlen0,tg0,tg,ts0,ts,hm5]
    (refine W.fg (hok0 _) (d:=I 132) (by simp only [r217,go_sem,seval];rfl) (by simp only [resV,go_sem,seval];exact wk_here) ?_ (hn:=(hlen0 _)))
    exact ⟨rfl,rfl⟩
  ·rw [if_neg (by simp)]
   simp only
   all_goals (
    (refine W.a ?_;simp only [go_sem,seval,c217,hlen0,tg0,tg,ts0,ts,hm5])
    (refine W.c1 (hS _) ?_;simp only [go_sem,seval,hlen0,tg0,tg,ts0,ts,hm5])
    (refine W.a ?_;simp only [go_sem,seval,bne,hlen0,tg0,tg,ts0,ts,hm5])
    refine W.no rfl (W.a ?_);simp only [go_sem,seval,hlen0,tg0,tg,ts0,ts,hm5];refine W.yes rfl (W.a ?_);simp only [go_sem,seval,hlen0,tg0,tg,ts0,ts,hm5];refine W.no rfl (W.a ?_);simp only [go_sem,seval,hlen0,tg0,tg,ts0,ts,hm5];apply W.dregE (List.cons_ne_nil _ _)
    case hc=>
     (apply CanonE.advPO;simp only [go_sem,seval,hlen0,tg0,tg,ts0,ts,hm5])
     (apply CanonE.call (hB _);(case hg=>rfl);(case hf=>rfl);(case ha=>first | rfl | simp))
     (apply CanonE.advPO;simp only [go_sem,seval,hlen0,tg0,tg,ts0,ts,hm5])
     (apply CanonE.call (hTl _);(case hg=>rfl);(case hf=>rfl);(case ha=>first | rfl | simp))
     (apply CanonE.advPO;simp only [go_sem,seval,hlen0,tg0,tg,ts0,ts,hm5])
     exact CanonE.nil
    (refine W.a ?_;simp only [go_sem,seval,hlen0,tg0,tg,ts0,ts,hm5])
    (refine W.fg (hok0 _) (d:=I 0) (by simp only [r217,go_sem,seval];rfl) (by simp only [resV,go_sem,seval];exact wk_here) ?_ (hn:=(hlen0 _)))
    exact ⟨rfl,rfl⟩)
 rw [if_neg h1]
 by_cases h2:nm = [44]
 ·subst h2
  rw [if_pos rfl];obtain ⟨hlen,hfit,_,_,_,hsp⟩:=hq (by decide)
  obtain ⟨a,b,rfl⟩:=list_two (hlen.trans rfl);obtain ⟨fa,na⟩:=hfit a (by simp)
  obtain ⟨fb,nb⟩:=hfit b (by simp)
  have hab:=two_nodes hf.valid hsp
  have hla:=hcl d a gs v (by omega) fa
  have hEa:=fun L=>hE' d v gs a acc L (by omega) fa hv0 (by omega) hgs (by omega) (by omega)
  have hEb:=fun L=>hE' d v gs b (acc ++ ((clF n).2 any v a gs).1) L (by omega) fb hv0 (by omega) hgs (by omega) (by rw [List.length_append];omega)
  have ea:([a,b]:List Typ).getD 0 .none = a:=rfl
  have eb:([a,b]:List Typ).getD 1 .none = b:=rfl
  rw [ea,eb];generalize (clF n).2 any v a gs = ra at *;generalize (clF n).2 any v b gs = rb at *;obtain ⟨ra1,ra2⟩:=ra;obtain ⟨rb1,rb2⟩:=rb;simp only [List.append_assoc] at hEa hEb ⊢;clear hq hG hE' hfit hlen h1 hcl hla hsp;simp only [List.map_cons,List.map_nil] at hS
  (refine W.a ?_;simp only [go_sem,seval,c217,hlen0,tg0,tg,ts0,ts,hm5])
  (refine W.c1 (hS _) ?_;simp only [go_sem,seval,hlen0,tg0,tg,ts0,ts,hm5])
  (refine W.a ?_;simp only [go_sem,seval,bne,hlen0,tg0,tg,ts0,ts,hm5])
  refine W.no rfl (W.a ?_);simp only [go_sem,seval,hlen0,tg0,tg,ts0,ts,hm5]
  repeat (first | (refine W.yes rfl ?_;(refine W.a ?_;simp only [go_sem,seval,hlen0,tg0,tg,ts0,ts,hm5])) | (refine W.no rfl ?_;(refine W.a ?_;simp only [go_sem,seval,hlen0,tg0,tg,ts0,ts,hm5])))
  apply W.dregE (List.cons_ne_nil _ _)
  case hc=>
   (apply CanonE.advPO;simp only [go_sem,seval,hlen0,tg0,tg,ts0,ts,hm5])
   (apply CanonE.call (hEa _);(case hg=>rfl);(case hf=>rfl);(case ha=>first | rfl | simp))
   (apply CanonE.advPO;simp only [go_sem,seval,hlen0,tg0,tg,ts0,ts,hm5])
   exact CanonE.nil
  by_cases hr:ra2 = 0
  ·have kr:(ra2 == 0) = true:=by simp [hr]
   rw [if_neg (fun e=>e hr)]
   clear hr
   (refine W.a ?_;simp only [go_sem,seval,bne,kr,hlen0,tg0,tg,ts0,ts,hm5])
   refine W.no rfl (W.a ?_);simp only [go_sem,seval,hlen0,tg0,tg,ts0,ts,hm5];apply W.dregE (List.cons_ne_nil _ _)
   case hc=>
    (apply CanonE.advPO;simp only [go_sem,seval,hlen0,tg0,tg,ts0,ts,hm5])
    (apply CanonE.call (hEb _);(case hg=>rfl);(case hf=>rfl);(case ha=>first | rfl | simp))
    (apply CanonE.advPO;simp only [go_sem,seval,hlen0,tg0,tg,ts0,ts,hm5])
    exact CanonE.nil
   (refine W.a ?_;simp only [go_sem,seval,hlen0,tg0,tg,ts0,ts,hm5])
   (refine W.fg (hok0 _) (d:=I rb2) (by simp only [r217,go_sem,seval];rfl) (by simp only [resV,go_sem,seval];exact wk_here) ?_ (hn:=(hlen0 _)))
   exact ⟨rfl,rfl⟩
  ·have kr:(ra2 == 0) = false:=by simp [hr]
   rw [if_pos hr];clear hr
   (refine W.a ?_;simp only [go_sem,seval,bne,kr,hlen0,tg0,tg,ts0,ts,hm5])
   refine W.yes rfl (W.a ?_);simp only [go_sem,seval,hlen0,tg0,tg,ts0,ts,hm5]
   (refine W.fg (hok0 _) (d:=I ra2) (by simp only [r217,go_sem,seval];rfl) (by simp only [resV,go_sem,seval];exact wk_here) ?_ (hn:=(hlen0 _)))
   exact ⟨rfl,rfl⟩
 rw [if_neg h2]
 by_cases h3:nm = [112,105]
 ·subst h3
  rw [if_pos rfl];obtain ⟨hlen,hfit,_⟩:=hq (by decide)
  obtain ⟨a,rfl⟩:=list_one (hlen.trans rfl);obtain ⟨fa,na⟩:=hfit a (by simp)
  have hbf:=bodyM_fit fa (by omega) (by omega)
  have hbn:=hbf.2
  have hBa:=fun σ=>clause_Body w0 a fa.valid (by omega) (near_more (by omega) a fa.near) σ
  have hUn:=fun σ=>around_under w0 v gs any hv0 (by omega) (by omega) (fun g hg=>by
   obtain ⟨g1,g2,g3⟩:=hgs.all g hg;exact ⟨near_more (by omega) g g2,by omega⟩) σ
  have hEa:=fun L=>hE' (d + 1) (v + 1) (gs.map (shiftM 0 1)) (bodyM a) acc L (Nat.le_refl _) hbf.1 (by omega) (by omega) (hgs.under (by omega)) (by rw [List.length_map];omega) (by omega)
  have ea:([a]:List Typ).getD 0 .none = a:=rfl
  rw [ea];generalize (clF n).2 any (v + 1) (bodyM a) (gs.map (shiftM 0 1)) = ra at *;obtain ⟨ra1,ra2⟩:=ra;generalize bodyM a = ba at *;generalize gs.map (shiftM 0 1) = gs2 at *;simp only at hEa ⊢;clear hq hG hE' hfit hlen h1 hcl;simp only [List.map_cons,List.map_nil] at hS
  (refine W.a ?_;simp only [go_sem,seval,c217,hlen0,tg0,tg,ts0,ts,hm5])
  (refine W.c1 (hS _) ?_;simp only [go_sem,seval,hlen0,tg0,tg,ts0,ts,hm5])
  (refine W.a ?_;simp only [go_sem,seval,bne,hlen0,tg0,tg,ts0,ts,hm5])
  refine W.no rfl (W.a ?_);simp only [go_sem,seval,hlen0,tg0,tg,ts0,ts,hm5]
  repeat (first | (refine W.yes rfl ?_;(refine W.a ?_;simp only [go_sem,seval,hlen0,tg0,tg,ts0,ts,hm5])) | (refine W.no rfl ?_;(refine W.a ?_;simp only [go_sem,seval,hlen0,tg0,tg,ts0,ts,hm5])))
  apply W.dregE (List.cons_ne_nil _ _)
  case hc=>
   (apply CanonE.advPO;simp only [go_sem,seval,hlen0,tg0,tg,ts0,ts,hm5])
   (apply CanonE.call (hBa _);(case hg=>rfl);(case hf=>rfl);(case ha=>first | rfl | simp))
   (apply CanonE.advPO;simp only [go_sem,seval,hlen0,tg0,tg,ts0,ts,hm5])
   (apply CanonE.call (hUn _);(case hg=>rfl);(case hf=>rfl);(case ha=>first | rfl | simp))
   (apply CanonE.advPO;simp only [go_sem,seval,hlen0,tg0,tg,ts0,ts,hm5])
   (apply CanonE.call (hEa _);(case hg=>rfl);(case hf=>rfl);(case ha=>first | rfl | simp))
   (apply CanonE.advPO;simp only [go_sem,seval,hlen0,tg0,tg,ts0,ts,hm5])
   exact CanonE.nil
  (refine W.a ?_;simp only [go_sem,seval,hlen0,tg0,tg,ts0,ts,hm5])
  (refine W.fg (hok0 _) (d:=I ra2) (by simp only [r217,go_sem,seval];rfl) (by simp only [resV,go_sem,seval];exact wk_here) ?_ (hn:=(hlen0 _)))
  exact ⟨rfl,rfl⟩
 rw [if_neg h3]
 by_cases h4:nm = [58,45]
 ·subst h4
  rw [if_pos rfl];obtain ⟨hlen,hfit,_⟩:=hq (by decide)
  obtain ⟨a,b,rfl⟩:=list_two (hlen.trans rfl);obtain ⟨fa,na⟩:=hfit a (by simp)
  obtain ⟨fb,nb⟩:=hfit b (by simp)
  have hGb:=hG b fb
  have hW:=fun σ=>around_with w0 v gs any b (by omega) σ
  have hEa:=fun L=>hE' d v (gs ++ [b]) a acc L (by omega) fa hv0 (by omega) (hgs.snoc fb (by omega)) (by rw [List.length_append,List.length_cons,List.length_nil];omega) (by omega)
  have ea:([a,b]:List Typ).getD 0 .none = a:=rfl
  have eb:([a,b]:List Typ).getD 1 .none = b:=rfl
  rw [ea,eb];generalize (clF n).2 any v a (gs ++ [b]) = ra at *;generalize (clF n).1 b = rg at *;generalize gs ++ [b] = gs2 at *;obtain ⟨ra1,ra2⟩:=ra;simp only at hEa ⊢;clear hq hG hE' hfit hlen h1 hcl;simp only [List.map_cons,List.map_nil] at hS
  (refine W.a ?_;simp only [go_sem,seval,c217,hlen0,tg0,tg,ts0,ts,hm5])
  (refine W.c1 (hS _) ?_;simp only [go_sem,seval,hlen0,tg0,tg,ts0,ts,hm5])
  (refine W.a ?_;simp only [go_sem,seval,bne,hlen0,tg0,tg,ts0,ts,hm5])
  refine W.no rfl (W.a ?_);simp only [go_sem,seval,hlen0,tg0,tg,ts0,ts,hm5]
  repeat (first | (refine W.yes rfl ?_;(refine W.a ?_;simp only [go_sem,seval,hlen0,tg0,tg,ts0,ts,hm5])) | (refine W.no rfl ?_;(refine W.a ?_;simp only [go_sem,seval,hlen0,tg0,tg,ts0,ts,hm5])))
  (refine W.c1 (hGb _) ?_;simp only [go_sem,seval,hlen0,tg0,tg,ts0,ts,hm5])
  by_cases hr:rg = 0
  ·have kr:(rg == 0) = true:=by simp [hr]
   rw [if_neg (fun e=>e hr)]
   clear hr
   (refine W.a ?_;simp only [go_sem,seval,bne,kr,hlen0,tg0,tg,ts0,ts,hm5])
   refine W.no rfl (W.a ?_);simp only [go_sem,seval,hlen0,tg0,tg,ts0,ts,hm5];apply W.dregE (List.cons_ne_nil _ _)
   case hc=>
    (apply CanonE.advPO;simp only [go_sem,seval,hlen0,tg0,tg,ts0,ts,hm5])
    (apply CanonE.call (hW _);(case hg=>rfl);(case hf=>rfl);(case ha=>first | rfl | simp))
    (apply CanonE.advPO;simp only [go_sem,seval,hlen0,tg0,tg,ts0,ts,hm5])
    (apply CanonE.call (hEa _);(case hg=>rfl);(case hf=>rfl);(case ha=>first | rfl | simp))
    (apply CanonE.advPO;simp only [go_sem,seval,hlen0,tg0,tg,ts0,ts,hm5])
    exact CanonE.nil
   (refine W.a ?_;simp only [go_sem,seval,hlen0,tg0,tg,ts0,ts,hm5])
   (refine W.fg (hok0 _) (d:=I ra2) (by simp only [r217,go_sem,seval];rfl) (by simp only [resV,go_sem,seval];exact wk_here) ?_ (hn:=(hlen0 _)))
   exact ⟨rfl,rfl⟩
  ·have kr:(rg == 0) = false:=by simp [hr]
   rw [if_pos hr];simp only [List.append_nil];clear hr
   (refine W.a ?_;simp only [go_sem,seval,bne,kr,hlen0,tg0,tg,ts0,ts,hm5])
   refine W.yes rfl (W.a ?_);simp only [go_sem,seval,hlen0,tg0,tg,ts0,ts,hm5]
   (refine W.fg (hok0 _) (d:=I rg) (by simp only [r217,go_sem,seval];rfl) (by simp only [resV,go_sem,seval];exact wk_here) ?_ (hn:=(hlen0 _)))
   exact ⟨rfl,rfl⟩
 rw [if_neg h4]
 by_cases h5:nm = [61,62]
 ·subst h5
  rw [if_pos rfl];obtain ⟨hlen,hfit,q3,q4,q5,hsp⟩:=hq (by decide)
  obtain ⟨a,b,rfl⟩:=list_two (hlen.trans rfl);obtain ⟨fa,na⟩:=hfit a (by simp)
  obtain ⟨fb,nb⟩:=hfit b (by simp)
  obtain ⟨x,hx6,hxl,hxh⟩:=two_parts hf.valid hsp
  have hSV:=fun σ=>shape_appV w0 t x [a,b] 131 hx6 hf.valid hxl (by simp) (by simp) (by rw [← hxh];exact q3) (by rw [← hxh,q4];exact q5) (by rw [← hxh,q4];rfl) σ
  rw [← hxh,q4] at hSV
  have hRv:=fun (L:H) hb=>reverse_two w0 a b (U acc ++ L) (m + 5) hb
  rw [two_flat] at hSV;simp only [two_flat] at hRv
  have hGa:=hG a fa
  have hW:=fun σ=>around_with w0 v gs any a (by omega) σ
  have hEb:=fun L=>hE' d v (gs ++ [a]) b acc L (by omega) fb hv0 (by omega) (hgs.snoc fa (by omega)) (by rw [List.length_append,List.length_cons,List.length_nil];omega) (by omega)
  have ea:([a,b]:List Typ).getD 0 .none = a:=rfl
  have eb:([a,b]:List Typ).getD 1 .none = b:=rfl
  rw [ea,eb];generalize (clF n).2 any v b (gs ++ [a]) = rb at *;generalize (clF n).1 a = rg at *;generalize gs ++ [a] = gs2 at *;generalize hd t = hdt at *;obtain ⟨rb1,rb2⟩:=rb;simp only [List.length_cons,List.length_nil] at hEb hSV ⊢;clear hq hG hE' hfit hlen h1 hcl hS hsp hxh q3 q4 q5 hxl hx6
  (refine W.a ?_;simp only [go_sem,seval,c217,hlen0,tg0,tg,ts0,ts,hm5])
  (refine W.c1 (hSV _) ?_;simp only [go_sem,seval,hlen0,tg0,tg,ts0,ts,hm5])
  (refine W.a ?_;simp only [go_sem,seval,bne,hlen0,tg0,tg,ts0,ts,hm5])
  refine W.no rfl (W.a ?_);simp only [go_sem,seval,hlen0,tg0,tg,ts0,ts,hm5]
  repeat (first | (refine W.yes rfl ?_;(refine W.a ?_;simp only [go_sem,seval,hlen0,tg0,tg,ts0,ts,hm5])) | (refine W.no rfl ?_;(refine W.a ?_;simp only [go_sem,seval,hlen0,tg0,tg,ts0,ts,hm5])))
  (refine W.c1 (hRv _ (tg _ 5 _)) ?_;simp only [go_sem,seval,hlen0,tg0,tg,ts0,ts,hm5])
  (refine W.c1 (hGa _) ?_;simp only [go_sem,seval,hlen0,tg0,tg,ts0,ts,hm5])
  by_cases hr:rg = 0
  ·have kr:(rg == 0) = true:=by simp [hr]
   rw [if_neg (fun e=>e hr)]
   clear hr
   (refine W.a ?_;simp only [go_sem,seval,bne,kr,hlen0,tg0,tg,ts0,ts,hm5])
   refine W.no rfl (W.a ?_);simp only [go_sem,seval,hlen0,tg0,tg,ts0,ts,hm5];apply W.dregE (List.cons_ne_nil _ _)
   case hc=>
    (apply CanonE.advPO;simp only [go_sem,seval,hlen0,tg0,tg,ts0,ts,hm5])
    (apply CanonE.call (hW _);(case hg=>rfl);(case hf=>rfl);(case ha=>first | rfl | simp))
    (apply CanonE.advPO;simp only [go_sem,seval,hlen0,tg0,tg,ts0,ts,hm5])
    (apply CanonE.call (hEb _);(case hg=>rfl);(case hf=>rfl);(case ha=>first | rfl | simp))
    (apply CanonE.advPO;simp only [go_sem,seval,hlen0,tg0,tg,ts0,ts,hm5])
    exact CanonE.nil
   (refine W.a ?_;simp only [go_sem,seval,hlen0,tg0,tg,ts0,ts,hm5])
   (refine W.fg (hok0 _) (d:=I rb2) (by simp only [r217,go_sem,seval];rfl) (by simp only [resV,go_sem,seval];exact wk_here) ?_ (hn:=(hlen0 _)))
   exact ⟨rfl,rfl⟩
  ·have kr:(rg == 0) = false:=by simp [hr]
   rw [if_pos hr];simp only [List.append_nil];clear hr
   (refine W.a ?_;simp only [go_sem,seval,bne,kr,hlen0,tg0,tg,ts0,ts,hm5])
   refine W.yes rfl (W.a ?_);simp only [go_sem,seval,hlen0,tg0,tg,ts0,ts,hm5]
   (refine W.fg (hok0 _) (d:=I rg) (by simp only [r217,go_sem,seval];rfl) (by simp only [resV,go_sem,seval];exact wk_here) ?_ (hn:=(hlen0 _)))
   exact ⟨rfl,rfl⟩
 rw [if_neg h5]
 have k1:(nm == []) = false:=by simpa using h1
 have k2:(nm == [44]) = false:=by simpa using h2
 have k3:(nm == [112,105]) = false:=by simpa using h3
 have k4:(nm == [58,45]) = false:=by simpa using h4
 have k5:(nm == [61,62]) = false:=by simpa using h5
 clear h1 h2 h3 h4 h5 hq hG hE' hcl
 simp only [List.append_nil]
 (refine W.a ?_;simp only [go_sem,seval,c217,hlen0,tg0,tg,ts0,ts,hm5])
 (refine W.c1 (hS _) ?_;simp only [go_sem,seval,hlen0,tg0,tg,ts0,ts,hm5])
 (refine W.a ?_;simp only [go_sem,seval,bne,hlen0,tg0,tg,ts0,ts,hm5])
 refine W.no rfl (W.a ?_)
 simp only [go_sem,seval,k1,k2,k3,k4,k5,hlen0,tg0,tg,ts0,ts,hm5]
 repeat (refine W.no rfl ?_;(refine W.a ?_;simp only [go_sem,seval,k1,k2,k3,k4,k5,hlen0,tg0,tg,ts0,ts,hm5]))
 (refine W.fg (hok0 _) (d:=I 131) (by simp only [r217,go_sem,seval];rfl) (by simp only [resV,go_sem,seval];exact wk_here) ?_ (hn:=(hlen0 _)))
 exact ⟨rfl,rfl⟩
end
end Go.Proofs.YtpcmcfajfnpjeaaGreatDoor

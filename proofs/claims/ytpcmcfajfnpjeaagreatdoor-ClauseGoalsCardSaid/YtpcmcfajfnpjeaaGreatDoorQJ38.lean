/- . -/
import Derived.Test.YtpcmcfajfnpjeaaGreatDoorQJ37
import Derived.Test.YtpcmcfajfnpjeaaGreatDoorQJ36
import Derived.Test.YtpcmcfajfnpjeaaGreatDoorChecked
import Derived.Test.YtpcmcfajfnpjeaaGreatDoorQJ11
import Derived.Test.YtpcmcfajfnpjeaaGreatDoorQJ15
import Derived.Test.YtpcmcfajfnpjeaaGreatDoorQJ10
import Derived.Test.YtpcmcfajfnpjeaaGreatDoorQTyA2
import Derived.Test.YtpcmcfajfnpjeaaGreatDoorQLexA
import Derived.Lib.Builder
import Derived.Laws.Externs
import Derived.OwnWalk
import Derived.Handy
import Derived.BigRegion
import Derived.Lib.ItoaMem
import Derived.Test.YtpcmcfajfnpjeaaGreatDoorQLexC
import Derived.Test.YtpcmcfajfnpjeaaGreatDoorQRefH
import Derived.Test.YtpcmcfajfnpjeaaGreatDoorQRefI
import Derived.Test.YtpcmcfajfnpjeaaGreatDoorQLxD
set_option linter.unusedSimpArgs false
set_option linter.unusedVariables false
set_option maxHeartbeats 8000000
set_option maxRecDepth 20000
namespace Go.Proofs.YtpcmcfajfnpjeaaGreatDoor
open Go.RowKit Go.Lamb
attribute [local go_sem] advO_skip advO_reg advO_seq advO_block advO_exit advO_endb advO_opsNil advO_ops advG_yes advG_no advG_none advS_some advS_none advO_cond advO_loop advO_dreg advO_ret advO_bad advO_inv advO_nil advO_zero wantedV Lamb.step ev_t ev_k put_some put_none argEnv popTo cellsAt V.cellsV V.rows V.sub V.toC toCs fillV bytesC byteRows appV rowsV boundV boundL binV binInt binStr eqC eqL V.isNil leaves V.leaf Ins.quiet Ins.pure List.getD_cons_zero List.getD_cons_succ List.getD_nil List.all_cons List.all_nil List.length_cons List.length_nil List.take_succ_cons List.take_zero List.drop_succ_cons List.drop_zero List.cons_append List.nil_append List.append_nil List.append_assoc List.map_cons List.map_nil List.getElem?_cons_zero List.getElem?_cons_succ List.length_append List.length_set hget0 hget hset0 hset hsets hgs0 hgs hss0 hss List.set_cons_zero List.set_cons_succ List.forall_mem_cons List.not_mem_nil false_implies implies_true Option.map_some Bool.and_true Bool.true_and Bool.not_not Bool.not_true Bool.not_false Bool.and_self Bool.or_true Bool.true_or Bool.or_false Bool.false_or Bool.and_false Bool.false_and Bool.false_eq_true beq_self_eq_true and_self and_true true_and if_true if_false Nat.zero_add Nat.add_zero Nat.le_refl Int.toNat_natCast decide_true decide_false beq_t beq_f List.length_map List.getElem?_map I S B opsC toksC OpT.v OpT.cs OpT.zero Tok.v Tok.cs Pre.v Pre.cs_eq k_mk name_mk n_mk l_mk pos_mk Pre.app applyL natCast0 natCast1 natCast2 AOp.o AOp.m AOp.f AOp.l AOp.d AOp.n AOp.x AOp.s AOp.k AOp.y AOp.z EOp.q low_c low_void low_any low_csl low_nilf low_ptr low_osl low_agg low_tup low_fn resEval advPO_nil advPO_loud advPO_quiet pL_yes pL_no pLS_some pLS_none pQ_yes pQ_no pQS_some pQS_loud eq_self Nat.sub_zero zK zT zF zS4
section
def claH (σ:H) (b0 b1:Blk) (acc:List Cla):H:=σ ++ [b0,b1,.cells [.osl (σ.length + 3) (acc.map Cla.cs)] none,.spare 88 9 acc.length]
theorem claH_len (σ:H) (b0 b1:Blk) (acc:List Cla):(claH σ b0 b1 acc).length = σ.length + 4:=by unfold claH;simp
theorem claH_ok {σ X:H} {b0 b1:Blk} {acc:List Cla} (h:H.ok (claH σ b0 b1 acc ++ X)) (acc':List Cla):H.ok (claH σ b0 b1 acc' ++ X):=by
 intro B hB cs tg hc x hx
 have hl:(claH σ b0 b1 acc' ++ X).length = (claH σ b0 b1 acc ++ X).length:=by simp only [List.length_append,claH_len]
 have hl2:σ.length + 4 ≤ (claH σ b0 b1 acc' ++ X).length:=by simp only [List.length_append,claH_len];omega
 unfold claH at h hB
 rcases List.mem_append.1 hB with hB | hB
 ·rcases List.mem_append.1 hB with hB | hB
  ·rw [hl];exact h B (List.mem_append_left _ (List.mem_append_left _ hB)) cs tg hc x hx
  ·simp only [List.mem_cons,List.not_mem_nil,or_false] at hB
   rcases hB with hB | hB | rfl | rfl
   ·rw [hl];exact h B (List.mem_append_left _ (List.mem_append_right _ (by rw [hB];exact List.mem_cons_self ..))) cs tg hc x hx
   ·rw [hl];exact h B (List.mem_append_left _ (List.mem_append_right _ (by rw [hB];exact List.mem_cons_of_mem _ (List.mem_cons_self ..)))) cs tg hc x hx
   ·injection hc with hc;subst hc
    simp only [List.mem_cons,List.not_mem_nil,or_false] at hx;subst hx;exact .osl (by omega)
   ·cases hc
 ·rw [hl];exact h B (List.mem_append_right _ hB) cs tg hc x hx
attribute [local go_sem] Typ.v Typ.cs_eq tk_mk tname_mk tn_mk tl_mk tysC arV Cla.v Cla.cs
theorem cla_tell (w0:World) (σ X:H) (b0 b1:Blk) (c:Cla) (acc:List Cla) (hn:acc.length ≤ 1000000):DC Tryz.prog w0 218 [c.v,.ptr (σ.length + 2) 0] (claH σ b0 b1 acc ++ X) (Same (.tup []) (claH σ b0 b1 (acc ++ [c]) ++ X)):=by
 refine k218.go rfl (fun hok hsz=>?_)
 have hok2:=claH_ok hok (acc ++ [c])
 have hl2:(claH σ b0 b1 (acc ++ [c]) ++ X).length = (claH σ b0 b1 acc ++ X).length:=by simp only [List.length_append,claH_len]
 have hb1:(acc.length + 1) * 120 ≤ 140737488355328:=by omega
 have hb2:acc.length + 1 ≤ 140737488355328:=by omega
 have hb3:acc.length ≤ 140737488355327:=by omega
 have hE:(acc ++ [c]).map Cla.cs = acc.map Cla.cs ++ [c.cs]:=by rw [List.map_append];rfl
 have hml:(acc.map Cla.cs).length = acc.length:=List.length_map ..
 simp only [claH,hE,List.length_append,List.length_cons,List.length_nil,Nat.zero_add,List.append_assoc,List.cons_append,List.nil_append] at hok2 hl2 ⊢
 generalize acc.map Cla.cs = R at *
 (refine W.a ?_;simp only [go_sem,seval,c218,hb1,hb2,hb3,hml])
 (refine W.done (Fin.sameW (hok2) (by (first | rfl | assumption | exact List.length_set .. | simp)) (by simp only [r218,go_sem,seval];rfl) ?_ (by (first | exact .c _ | (simp only [go_sem,seval];done))) (by (first | (rw [List.append_assoc];done) | (rw [List.append_assoc];rfl))));simp only [resV];try exact V.wk.rfl _)
theorem cla_T (w0:World) (σ:H) (b0 b1:Blk):TellC w0 (claH σ b0 b1) (σ.length + 4) 218 [.ptr (σ.length + 2) 0] where
 len:=claH_len σ b0 b1
 ok:=fun a b X h=>claH_ok h b
 low:=fun x hx=>by
  simp only [List.mem_cons,List.not_mem_nil,or_false] at hx;subst hx;exact .ptr (by omega)
 tell:=fun a c X h=>cla_tell w0 σ X b0 b1 c a h
def clR (n:Nat) (any:Bool) (v:Int) (t:Typ):List Cla × Int:=if ((clF n).2 any v t []).2 = 0 then (clF n).2 any v t [] else ([],((clF n).2 any v t []).2)
def EachOk (w0:World) (n:Nat):Prop:=∀ (τ:List Cla → H) (M:Nat) (fid:FuncId) (caps:List V),TellC w0 τ M fid caps → ∀ any (d:Nat) (v:Int) (gs:List Typ) (u:Typ) (acc:List Cla) (X:H),d + n ≤ 50000 → FitM n d u → 0 ≤ v → v + n ≤ 100000 → FitG d gs → gs.length + n ≤ 1000 → acc.length + nodesM u ≤ 900000 → DC Tryz.prog w0 217 [u.v,arV v gs any,.fn fid caps] (τ acc ++ X) (Same (I ((clF n).2 any v u gs).2) (τ (acc ++ ((clF n).2 any v u gs).1) ++ X))
theorem clause_all {w0:World} {n d:Nat} (hE:EachOk w0 n) (hd':d + n ≤ 50000) (any:Bool) (v:Int) (t:Typ) (hf:FitM n d t) (hv0:0 ≤ v) (hv1:v + n ≤ 100000) (hn:n ≤ 1000) (σ:H):DC Tryz.prog w0 123 [t.v,arV v [] any] σ (Same (.tup [.c (.sl ((clR n any v t).1.map Cla.cs)),I (clR n any v t).2]) σ):=by
 refine k123.go rfl (fun hok hsz=>?_)
 have hnt:=hf.nodes
 have hc:=hE _ _ _ _ (cla_T w0 σ (.cells t.v.cellsV) (.cells (arV v [] any).cellsV)) any d v [] t [] [] hd' hf hv0 hv1 ⟨Nat.zero_le _,fun g hg=>by cases hg⟩ (by simpa using hn) (by simp;omega)
 unfold clR
 generalize (clF n).2 any v t [] = r at *
 obtain ⟨r1,r2⟩:=r
 simp only [claH,List.append_nil,List.nil_append,arV,List.map_nil,List.length_nil,V.cellsV,Typ.v] at hc ⊢
 (refine W.a ?_;simp only [go_sem,seval,c123,List.map_nil])
 refine W.ownCell (σ.length + 2) 0 88 9 (cs:=[.csl []]) (tg:=none) ?_ rfl ?_
 ·simp only [hget,List.getElem?_cons_succ,List.getElem?_cons_zero]
 simp only [go_sem,seval]
 (refine W.c1 (hc) ?_;simp only [go_sem,seval])
 by_cases h:r2 = 0
 ·have k:(r2 == 0) = true:=by simp [h]
  subst h;rw [if_pos rfl]
  (refine W.a ?_;simp only [go_sem,seval,bne,k])
  refine W.no rfl (W.a ?_);simp only [go_sem,seval]
  (refine W.fs (hok) (by simp only [r123,go_sem,seval];rfl) ?_;simp only [resV];try exact V.wk.rfl _)
  all_goals (all_goals exact wk_here)
 ·have k:(r2 == 0) = false:=by simp [h]
  rw [if_neg h];simp only [List.map_nil];clear h
  (refine W.a ?_;simp only [go_sem,seval,bne,k])
  refine W.yes rfl (W.a ?_);simp only [go_sem,seval]
  (refine W.fs (hok) (by simp only [r123,go_sem,seval];rfl) ?_;simp only [resV];try exact V.wk.rfl _)
  all_goals (all_goals exact wk_here)
theorem clause_Clauses {w0:World} {n d:Nat} (hE:EachOk w0 n) (hd':d + n ≤ 50000) (t:Typ) (hf:FitM n d t) (hn:n ≤ 1000) (σ:H):DC Tryz.prog w0 41 [t.v] σ (Same (.tup [.c (.sl ((clR n false 0 t).1.map Cla.cs)),I (clR n false 0 t).2]) σ):=by
 refine k41.go rfl (fun hok hsz=>?_)
 have hV:=fun σ=>term_Valid w0 t σ
 rw [hf.valid] at hV
 have hA:=fun σ=>clause_all hE hd' false 0 t hf (Int.le_refl _) (by omega) hn σ
 generalize clR n false 0 t = r at *
 simp only [arV,List.map_nil] at hA
 generalize r.1.map Cla.cs = R at *
 (refine W.a ?_;simp only [go_sem,seval,c41])
 (refine W.c1 (hV _) ?_;simp only [go_sem,seval])
 refine W.no rfl (W.a ?_)
 simp only [go_sem,seval]
 (refine W.c1w (hA _) ?_;simp only [go_sem,seval])
 (refine W.a ?_;simp only [go_sem,seval])
 (refine W.fs (hok) (by simp only [r41,go_sem,seval];rfl) ?_;simp only [resV];try exact V.wk.rfl _)
theorem goal_each (w0:World):∀ n:Nat,n ≤ 1000 → (∀ d t,d + n ≤ 50000 → FitM n d t → ∀ σ,DC Tryz.prog w0 45 [t.v] σ (Same (I ((clF n).1 t)) σ)) ∧ EachOk w0 n
 | 0,_=>⟨fun d t _ hf=>absurd hf.consts (Nat.not_lt_zero _),fun _ _ _ _ _ _ _ _ _ u _ _ _ hf=>absurd hf.consts (Nat.not_lt_zero _)⟩
 | n + 1,hn=>by
   obtain ⟨hG,hE⟩:=goal_each w0 n (by omega)
   refine ⟨fun d t hd' hf σ=>?_,fun τ M fid caps hT any d v gs u acc X hd' hf h0 h1 hgs hgl hacc=>?_⟩
   ·refine goal_step w0 (n:=n) (d:=d) (by omega) (fun e u he hu σ=>hG e u (by omega) hu σ) (fun u hu=>⟨(clR n false 0 u).1.map Cla.cs,fun σ=>?_⟩) t hf σ
    ·have h:=clause_Clauses hE (d:=d) (by omega) u hu (by omega) σ
     have e:(clR n false 0 u).2 = ((clF n).2 false 0 u []).2:=by unfold clR;split <;> rfl
     rw [← e];exact h
   ·exact each_step hT (by omega) (fun u hu σ=>hG d u (by omega) hu σ) (fun any e v gs u acc X he hu h0 h1 h2 h3 h4=>hE τ M fid caps hT any e v gs u acc X (by omega) hu h0 h1 h2 h3 h4) any v gs u acc X hf h0 h1 hgs (by omega) hacc
end
section
attribute [local go_sem] Typ.v Typ.cs_eq tk_mk tname_mk tn_mk tl_mk tysC arV
theorem clause_Parts {w0:World} {n d:Nat} (hE:EachOk w0 n) (hd':d + n ≤ 50000) (t:Typ) (hf:FitM n d t) (hn:n ≤ 1000) (σ:H):DC Tryz.prog w0 47 [t.v] σ (Same (.tup [.c (.sl ((clR n true 0 t).1.map Cla.cs)),I (clR n true 0 t).2]) σ):=by
 refine k47.go rfl (fun hok hsz=>?_)
 have hV:=fun σ=>term_Valid w0 t σ
 rw [hf.valid] at hV
 have hA:=fun σ=>clause_all hE hd' true 0 t hf (Int.le_refl _) (by omega) hn σ
 generalize clR n true 0 t = r at *
 simp only [arV,List.map_nil] at hA
 generalize r.1.map Cla.cs = R at *
 ((try refine W.a ?_);simp only [go_sem,seval,c47])
 (refine W.c1 (hV _) ?_;simp only [go_sem,seval])
 refine W.no rfl (W.a ?_)
 simp only [go_sem,seval]
 (refine W.c1w (hA _) ?_;simp only [go_sem,seval])
 ((try refine W.a ?_);simp only [go_sem,seval])
 (refine W.fs (hok) (by simp only [r47,go_sem,seval];rfl) ?_;simp only [resV];try exact V.wk.rfl _)
theorem clause_no (w0:World) (t:Typ) (hv:validM t = false) (σ:H):DC Tryz.prog w0 41 [t.v] σ (Same (.tup [.c (.sl []),I 1]) σ):=by
 refine k41.go rfl (fun hok hsz=>?_)
 have hV:=fun σ=>term_Valid w0 t σ
 rw [hv] at hV
 ((try refine W.a ?_);simp only [go_sem,seval,c41])
 (refine W.c1 (hV _) ?_;simp only [go_sem,seval])
 refine W.yes rfl (W.a ?_)
 simp only [go_sem,seval]
 (refine W.fs (hok) (by simp only [r41,go_sem,seval];rfl) ?_;simp only [resV];try exact V.wk.rfl _)
 all_goals (all_goals exact wk_here)
theorem parts_no (w0:World) (t:Typ) (hv:validM t = false) (σ:H):DC Tryz.prog w0 47 [t.v] σ (Same (.tup [.c (.sl []),I 1]) σ):=by
 refine k47.go rfl (fun hok hsz=>?_)
 have hV:=fun σ=>term_Valid w0 t σ
 rw [hv] at hV
 ((try refine W.a ?_);simp only [go_sem,seval,c47])
 (refine W.c1 (hV _) ?_;simp only [go_sem,seval])
 refine W.yes rfl (W.a ?_)
 simp only [go_sem,seval]
 (refine W.fs (hok) (by simp only [r47,go_sem,seval];rfl) ?_;simp only [resV];try exact V.wk.rfl _)
 all_goals (all_goals exact wk_here)
theorem goal_no (w0:World) (t:Typ) (hv:validM t = false) (σ:H):DC Tryz.prog w0 45 [t.v] σ (Same (I 1) σ):=by
 refine k45.go rfl (fun hok hsz=>?_)
 have hV:=fun σ=>term_Valid w0 t σ
 rw [hv] at hV
 ((try refine W.a ?_);simp only [go_sem,seval,c45])
 (refine W.c1 (hV _) ?_;simp only [go_sem,seval])
 refine W.yes rfl (W.a ?_)
 simp only [go_sem,seval]
 (refine W.fs (hok) (by simp only [r45,go_sem,seval];rfl) ?_;simp only [resV];try exact V.wk.rfl _)
theorem top_no (w0:World) (t:Typ) (n:Int) (hv:validM t = false ∨ n > 4096) (σ:H):DC Tryz.prog w0 46 [t.v,I n] σ (Same (.tup [.c (.sl []),I 1]) σ):=by
 refine k46.go rfl (fun hok hsz=>?_)
 have hV:=fun σ=>term_Valid w0 t σ
 cases h:validM t
 ·rw [h] at hV
  ((try refine W.a ?_);simp only [go_sem,seval,c46])
  (refine W.c1 (hV _) ?_;simp only [go_sem,seval])
  ((try refine W.a ?_);simp only [go_sem,seval])
  refine W.yes rfl (W.a ?_);simp only [go_sem,seval]
  (refine W.fs (hok) (by simp only [r46,go_sem,seval];rfl) ?_;simp only [resV];try exact V.wk.rfl _)
  all_goals (all_goals exact wk_here)
 ·rw [h] at hV
  have hn:n > 4096:=hv.resolve_left (by rw [h];simp)
  ((try refine W.a ?_);simp only [go_sem,seval,c46])
  (refine W.c1 (hV _) ?_;simp only [go_sem,seval])
  ((try refine W.a ?_);simp only [go_sem,seval,hn])
  refine W.yes rfl (W.a ?_);simp only [go_sem,seval]
  (refine W.fs (hok) (by simp only [r46,go_sem,seval];rfl) ?_;simp only [resV];try exact V.wk.rfl _)
  all_goals (all_goals exact wk_here)
theorem term_Lams1 (w0:World) (t:Typ) (σ:H):DC Tryz.prog w0 44 [I 1,t.v] σ (Same (lamT t).v σ):=by
 refine k44.go rfl (fun hok hsz=>?_)
 have hw:IntKind.i64.wrap (0 + 1) = 1:=by decide
 ((try refine W.a ?_);simp only [go_sem,seval,c44])
 refine W.loopP (α:=Bool) (fun _=>True) (fun d=>⟨((((base.put (some 3) (.ptr σ.length 0)).put (some 4) (.ptr (σ.length + 1) 0)).put (some 6) (I 1)).put (some 7) (I (if d then 1 else 0))),σ ++ [.cells (if d then (lamT t).v.cellsV else t.v.cellsV),.cells [I 0,S [],I 0,.csl []]]⟩) (fun d=>if d then 0 else 1) false trivial ?_ (fun d _=>?_)
 ·simp only [Bool.false_eq_true,if_false]
  (refine Lew.env ?_;exact lee_here)
 cases d
 ·simp only [Bool.false_eq_true,if_false]
  ((try refine W.a ?_);simp only [go_sem,seval])
  refine W.yes rfl (W.a ?_);simp only [go_sem,seval,hw];refine .inv ⟨true,by simp,?_⟩
  simp only [if_true,lamT];simp only [go_sem,seval]
  (refine Lew.cutL (hok) ?_ (by simp) (by simp) ?_ ?_ ?_;exact lee_here;((try simp only [okB,wkB,go_sem,seval]) <;> omega);(simp only [List.length_cons,List.length_nil,Nat.reduceAdd,List.take_succ_cons,List.take_zero,wkB,and_true];(repeat' (refine And.intro ?_ ?_)) <;> (first | exact Blk.wk.rfl _ | exact Blk.wk.gone _ | (refine Blk.wk_cells ?_ rfl;(exact wk_here))));(repeat' (first | exact LowE.base _ | (refine LowE.put ?_ (by first | exact .c _ | ((try simp only [okB,wkB,go_sem,seval]) <;> omega))))))
 ·simp only [if_true]
  ((try refine W.a ?_);simp only [go_sem,seval])
  refine W.no rfl (W.a ?_);simp only [go_sem,seval,lamT]
  (refine W.fs (hok) (by simp only [r44,go_sem,seval];rfl) ?_;simp only [resV];try exact V.wk.rfl _)
  all_goals (all_goals exact wk_here)
def mpRow (f:Typ → Typ) (l:List Typ) (i:Nat):List Typ:=(l.take i).map f ++ l.drop i
theorem mpRow_len {f:Typ → Typ} {l:List Typ} {i:Nat}:(mpRow f l i).length = l.length:=by
 unfold mpRow
 rw [List.length_append,List.length_map,List.length_take,List.length_drop]
 omega
theorem mpRow_get {f:Typ → Typ} {l:List Typ} {i:Nat} (hi:i < l.length):(mpRow f l i)[i]? = some l[i]:=by
 unfold mpRow
 have e:((l.take i).map f).length = i:=by rw [List.length_map,List.length_take];omega
 rw [List.getElem?_append_right (by omega),e,Nat.sub_self,List.getElem?_drop,Nat.add_zero,List.getElem?_eq_getElem hi]
theorem mpRow_set {f:Typ → Typ} {l:List Typ} {i:Nat} (hi:i < l.length):(mpRow f l i).set i (f l[i]) = mpRow f l (i + 1):=by
 unfold mpRow
 have e:((l.take i).map f).length = i:=by rw [List.length_map,List.length_take];omega
 rw [List.set_append_right _ _ (by omega),e,Nat.sub_self,List.drop_eq_getElem_cons hi,List.set_cons_zero,List.take_succ_eq_append_getElem hi,List.map_append,List.append_assoc]
 rfl
theorem mpRow_end {f:Typ → Typ} {l:List Typ}:mpRow f l l.length = l.map f:=by
 unfold mpRow
 rw [List.take_length,List.drop_length,List.append_nil]
theorem clause_abstract (w0:World) (n:Int) (hn0:0 ≤ n) (hn1:n ≤ 4096) (t:Typ):validM t = true → nearM 1099511628776 t = true → ∀ (k:Nat),k + nodesM t ≤ 1000 → ∀ (σ:H),DC Tryz.prog w0 223 [t.v,I n,I (k:Int)] σ (Same (absM n (k:Int) t).v σ):=by
 refine Typ.ind (P:=fun t=>validM t = true → nearM 1099511628776 t = true → ∀ (k:Nat),k + nodesM t ≤ 1000 → ∀ (σ:H),DC Tryz.prog w0 223 [t.v,I n,I (k:Int)] σ (Same (absM n (k:Int) t).v σ)) (fun t ih hv hnr k hk σ=>?_) t
 refine k223.go rfl (fun hok hsz=>?_)
 have hp:=nodesM_pos t
 rw [absM_eq]
 by_cases h4:t.k = 4
 ·have k4:(t.k == 4) = true:=by simp [h4]
  have hnn:=near_node hnr (by omega)
  rw [if_pos h4]
  by_cases hlt:t.n < n
  ·rw [if_pos hlt]
   have hw1:IntKind.i64.wrap ((k:Int) + n) = (k:Int) + n:=by rw [wrap_in] <;> omega
   have hw2:IntKind.i64.wrap ((k:Int) + n - 1) = (k:Int) + n - 1:=by rw [wrap_in] <;> omega
   have hw3:IntKind.i64.wrap ((k:Int) + n - 1 - t.n) = (k:Int) + n - 1 - t.n:=by rw [wrap_in] <;> omega
   clear h4
   ((try refine W.a ?_);simp only [go_sem,seval,c223,k4])
   refine W.yes rfl (W.a ?_);simp only [go_sem,seval,hlt];refine W.yes rfl (W.a ?_);simp only [go_sem,seval,hw1,hw2,hw3]
   (refine W.fs (hok) (by simp only [r223,go_sem,seval];rfl) ?_;simp only [resV];try exact V.wk.rfl _)
   all_goals (all_goals exact wk_here)
  ·rw [if_neg hlt]
   clear h4
   ((try refine W.a ?_);simp only [go_sem,seval,c223,k4])
   refine W.yes rfl (W.a ?_);simp only [go_sem,seval,hlt];refine W.no rfl (W.a ?_);simp only [go_sem,seval]
   (refine W.fs (hok) (by simp only [r223,go_sem,seval];rfl) ?_;simp only [resV];try exact V.wk.rfl _)
   all_goals (all_goals exact wk_here)
 have k4:(t.k == 4) = false:=by simp [h4]
 rw [if_neg h4]
 by_cases h3:t.k = 3
 ·have k3:(t.k == 3) = true:=by simp [h3]
  have hnn:=near_node hnr (by omega)
  rw [if_pos h3]
  by_cases hge:t.n ≥ (k:Int)
  ·rw [if_pos hge]
   have hw1:IntKind.i64.wrap (t.n + n) = t.n + n:=by rw [wrap_in] <;> omega
   clear h3 h4
   ((try refine W.a ?_);simp only [go_sem,seval,c223,k4,k3])
   refine W.no rfl (W.a ?_);simp only [go_sem,seval,k3];refine W.yes rfl (W.a ?_);simp only [go_sem,seval,hge];refine W.yes rfl (W.a ?_);simp only [go_sem,seval,hw1]
   (refine W.fs (hok) (by simp only [r223,go_sem,seval];rfl) ?_;simp only [resV];try exact V.wk.rfl _)
   all_goals (all_goals exact wk_here)
  ·rw [if_neg hge]
   clear h3 h4
   ((try refine W.a ?_);simp only [go_sem,seval,c223,k4,k3])
   refine W.no rfl (W.a ?_);simp only [go_sem,seval,k3];refine W.yes rfl (W.a ?_);simp only [go_sem,seval,hge];refine W.no rfl (W.a ?_);simp only [go_sem,seval]
   (refine W.fs (hok) (by simp only [r223,go_sem,seval];rfl) ?_;simp only [resV];try exact V.wk.rfl _)
   all_goals (all_goals exact wk_here)
 have k3:(t.k == 3) = false:=by simp [h3]
 rw [if_neg h3]
 by_cases h5:t.k = 5
 ·have k5:(t.k == 5) = true:=by simp [h5]
  rw [if_pos h5];obtain ⟨e1,e2,b,hl⟩:=valid_lam hv h5
  have hb:b ∈ t.l:=by rw [hl];simp
  have hnb:=nodesM_mem hb
  have hA:=fun σ=>ih b hb (valid_kids hv b hb) (near_kids hnr b hb) (k + 1) (by omega) σ
  have e:((k + 1:Nat):Int) = (k:Int) + 1:=by omega
  rw [e] at hA
  have hw:IntKind.i64.wrap ((k:Int) + 1) = (k:Int) + 1:=by rw [wrap_in] <;> omega
  have hx:t.l[0]? = some b:=by rw [hl];rfl
  have hlen:(0:Int) < (t.l.length:Int):=by rw [hl];simp
  have hE:(Typ.mk t.k t.name t.n (t.l.map (absM n ((k:Int) + 1)))) = lamT (absM n ((k:Int) + 1) b):=by rw [h5,e1,e2,hl];rfl
  rw [hE]
  have hL:=fun σ=>term_Lams1 w0 (absM n ((k:Int) + 1) b) σ
  generalize lamT (absM n ((k:Int) + 1) b) = z at *;generalize absM n ((k:Int) + 1) b = y at *;clear h3 h4 h5 hE e1 e2 hl ih
  ((try refine W.a ?_);simp only [go_sem,seval,c223,k4,k3,k5])
  refine W.no rfl (W.a ?_);simp only [go_sem,seval,k3];refine W.no rfl (W.a ?_);simp only [go_sem,seval,k5];refine W.yes rfl (W.a ?_);simp only [go_sem,seval,hx,hlen,hw]
  (refine W.c1 (hA _) ?_;simp only [go_sem,seval])
  ((try refine W.a ?_);simp only [go_sem,seval])
  (refine W.c1 (hL _) ?_;simp only [go_sem,seval])
  ((try refine W.a ?_);simp only [go_sem,seval])
  (refine W.fs (hok) (by simp only [r223,go_sem,seval];rfl) ?_;simp only [resV];try exact V.wk.rfl _)
  all_goals (all_goals exact wk_here)
 have k5:(t.k == 5) = false:=by simp [h5]
 rw [if_neg h5]
 by_cases h6:¬ t.k = 6
 ·have k6:(t.k == 6) = false:=by simp [h6]
  rw [if_neg h6];clear h3 h4 h5 h6
  ((try refine W.a ?_);simp only [go_sem,seval,c223,k4,k3,k5,k6])
  refine W.no rfl (W.a ?_);simp only [go_sem,seval,k3];refine W.no rfl (W.a ?_);simp only [go_sem,seval,k5];refine W.no rfl (W.a ?_);simp only [go_sem,seval,k6];refine W.no rfl (W.a ?_);simp only [go_sem,seval]
  (refine W.fs (hok) (by simp only [r223,go_sem,seval];rfl) ?_;simp only [resV];try exact V.wk.rfl _)
  all_goals (all_goals exact wk_here)
 have h6:t.k = 6:=Decidable.of_not_not h6
 have k6:(t.k == 6) = true:=by simp [h6]
 rw [if_pos h6]
 obtain ⟨_,_,a,b,l,hl,_⟩:=valid_app hv h6
 have hl0:t.l ≠ []:=by rw [hl];simp
 have hlen:=kids_nodes t
 have hne:t.l.map Typ.cs ≠ []:=by simpa using hl0
 have hcl:=fun σ=>clone_tmV w0 (t.l.map Typ.cs) hne (rows4 t.l) (by rw [List.length_map];omega) σ
 rw [List.length_map] at hcl
 obtain ⟨F,Z,hFl,hF0,hFn,hget,hset,hkid⟩:∃ (F:Nat → List C) (Z:Nat → Typ),(∀ i,(F i).length = t.l.length * 4) ∧ F 0 = (t.l.map Typ.cs).flatten ∧ rowsOf 4 t.l.length (F t.l.length) = (t.l.map (absM n (k:Int))).map Typ.cs ∧
   (∀ i (hi:i < t.l.length),List.take 4 (List.drop (i * 4) (List.map V.c (F i))) = [.c (.int .i64 t.l[i].k),.c (.str t.l[i].name),.c (.int .i64 t.l[i].n),.c (.sl (t.l[i].l.map Typ.cs))]) ∧
   (∀ i (hi:i < t.l.length),List.take (i * 4) (F i) ++ .int .i64 (Z i).k :: .str (Z i).name :: .int .i64 (Z i).n :: .sl ((Z i).l.map Typ.cs) :: List.drop (i * 4 + 4) (F i) = F (i + 1)) ∧
   (∀ i (hi:i < t.l.length) σ,DC Tryz.prog w0 223 [t.l[i].v,I n,I (k:Int)] σ (Same (Z i).v σ)):=by
  refine ⟨fun i=>((mpRow (absM n (k:Int)) t.l i).map Typ.cs).flatten,fun i=>absM n (k:Int) (t.l.getD i .none),fun i=>?_,?_,?_,fun i hi=>?_,fun i hi=>?_,fun i hi σ=>?_⟩
  ·rw [flat4_len (rows4 _),List.length_map,mpRow_len]
  ·simp only [mpRow,List.take_zero,List.map_nil,List.drop_zero,List.nil_append]
  ·have h:=rowsOf_flat (rows4 (t.l.map (absM n (k:Int))))
   rw [List.length_map,List.length_map] at h;simp only [mpRow_end];exact h
  ·have hi':i < (mpRow (absM n (k:Int)) t.l i).length:=by rw [mpRow_len];exact hi
   have e:((mpRow (absM n (k:Int)) t.l i).map Typ.cs)[i]'(by rw [List.length_map];exact hi') = t.l[i].cs:=by
    rw [List.getElem_map,(List.getElem_eq_iff _).2 (mpRow_get hi)]
   dsimp only
   rw [← List.map_drop,← List.map_take,flat4_get (rows4 _) (by rw [List.length_map];exact hi'),e,Typ.cs_eq]
   rfl
  ·have hi':i < (mpRow (absM n (k:Int)) t.l i).length:=by rw [mpRow_len];exact hi
   have h:=flat4_set (rows4 (mpRow (absM n (k:Int)) t.l i)) (i:=i) (by rw [List.length_map];exact hi') (absM n (k:Int) t.l[i]).cs (by rw [Typ.cs_eq];rfl)
   rw [← List.map_set,mpRow_set hi,Typ.cs_eq,List.append_assoc] at h;simp only [List.getD_eq_getElem?_getD,List.getElem?_eq_getElem hi,Option.getD_some];exact h
  ·have hmem:=List.getElem_mem hi
   have hnd:=nodesM_mem hmem
   have h:=ih t.l[i] hmem (valid_kids hv _ hmem) (near_kids hnr _ hmem) k (by omega) σ
   simp only [List.getD_eq_getElem?_getD,List.getElem?_eq_getElem hi,Option.getD_some];exact h
 rw [← hF0] at hcl
 generalize t.l.map (absM n (k:Int)) = zs at *
 clear hF0 ih h3 h4 h5 h6 hl0 hne hl
 ((try refine W.a ?_);simp only [go_sem,seval,c223,k4,k3,k5,k6])
 refine W.no rfl (W.a ?_)
 simp only [go_sem,seval,k3]
 refine W.no rfl (W.a ?_)
 simp only [go_sem,seval,k5]
 refine W.no rfl (W.a ?_)
 simp only [go_sem,seval,k6]
 refine W.yes rfl (W.a ?_)
 simp only [go_sem,seval]
 (refine W.c1 (hcl _) ?_;simp only [go_sem,seval])
 ((try refine W.a ?_);simp only [go_sem,seval])
 refine W.loopP (fun i=>i ≤ t.l.length) (fun i=>⟨(((((((base.put (some 1) (I n)).put (some 2) (I (k:Int))).put (some 3) (.ptr σ.length 0)).put (some 6) (.ptr (σ.length + 1) 0)).put (some 7) (.vec (σ.length + 2) t.l.length)).put (some 53) (I (t.l.length:Int))).put (some 54) (I (i:Int))),σ ++ [.cells t.v.cellsV,.cells [I 0,S [],I 0,.csl []],.vec 30 4 (F i)]⟩) (fun i=>t.l.length - i) 0 (Nat.zero_le _) ?_ (fun i hi=>?_)
 ·(refine Lew.env ?_;exact lee_here)
 by_cases hlt:i < t.l.length
 ·have h1:(i:Int) < (t.l.length:Int):=by omega
  have h0:(0:Int) ≤ (i:Int):=by omega
  have hw:IntKind.i64.wrap ((i:Int) + 1) = ((i + 1:Nat):Int):=by rw [wrap_in] <;> omega
  have hki:=hkid i hlt
  have hgi:=hget i hlt
  have hsi:=hset i hlt
  have hFi:=hFl i
  have hii:i * 4 + 4 ≤ t.l.length * 4:=by omega
  ((try refine W.a ?_);simp only [go_sem,seval,h1])
  refine W.yes rfl (W.a ?_);simp only [go_sem,seval,h1,h0,hgi,hFi,hii]
  (refine W.c1 (hki _) ?_;simp only [go_sem,seval])
  ((try refine W.a ?_);simp only [go_sem,seval,hw,h1,h0,hsi,hFi,hii])
  refine .inv ⟨i + 1,hlt,by omega,?_⟩
  (refine Lew.env ?_;exact lee_here)
 obtain rfl:i = t.l.length:=by omega
 have h1:¬ ((t.l.length:Nat):Int) < ((t.l.length:Nat):Int):=by omega
 refine W.frzV (b:=σ.length + 2) (e:=30) (size:=4) (k:=t.l.length) (cs:=F t.l.length) 7 rfl (Go.Lamb.hget _ _ 2) (Nat.le_of_eq (hFl _).symm) ?_
 ((try refine W.a ?_);simp only [go_sem,seval,h1,hFn])
 refine W.no rfl (W.a ?_)
 simp only [go_sem,seval,hFn]
 (refine W.fs (hok) (by simp only [r223,go_sem,seval];rfl) ?_;simp only [resV];try exact V.wk.rfl _)
 all_goals (all_goals exact wk_here)
theorem clause_Top {w0:World} (hE:EachOk w0 400) (t:Typ) (n:Int) (hs:Small t) (hn:n ≤ 4096) (σ:H):DC Tryz.prog w0 46 [t.v,I n] σ (Same (.tup [.c (.sl ((topM n t).1.map Cla.cs)),I (topM n t).2]) σ):=by
 refine k46.go rfl (fun hok hsz=>?_)
 have hV:=fun σ=>term_Valid w0 t σ
 rw [hs.valid] at hV
 have hfit:=hs.abs hn
 have hAb:∀ σ,DC Tryz.prog w0 127 [t.v,I n] σ (Same (absM (max n 0) 0 t).v σ):=fun σ=>by
  refine k127.go rfl (fun hok hsz=>?_)
  have hA:=fun σ=>clause_abstract w0 (max n 0) (by omega) (by omega) t hs.valid (near_more (by decide) t hs.near) 0 (by have:=hs.nodes;omega) σ
  have e:(((0:Nat):Int)) = 0:=rfl
  rw [e] at hA
  have hmx:(if (0:Int) > n then (0:Int) else n) = max n 0:=by split <;> omega
  generalize absM (max n 0) 0 t = z at *;generalize max n 0 = m at *
  ((try refine W.a ?_);simp only [go_sem,seval,c127])
  (refine W.c1 (hV _) ?_;simp only [go_sem,seval])
  refine W.no rfl (W.a ?_);simp only [go_sem,seval,hmx]
  (refine W.c1 (hA _) ?_;simp only [go_sem,seval])
  ((try refine W.a ?_);simp only [go_sem,seval])
  (refine W.fs (hok) (by simp only [r127,go_sem,seval];rfl) ?_;simp only [resV];try exact V.wk.rfl _)
  all_goals (all_goals exact wk_here)
 have hAll:=fun σ=>clause_all hE (d:=6000) (by decide) false (max n 0) (absM (max n 0) 0 t) hfit (by omega) (by omega) (by decide) σ
 have e:clR 400 false (max n 0) (absM (max n 0) 0 t) = topM n t:=rfl
 rw [e] at hAll
 have hmx:(if (0:Int) > n then (0:Int) else n) = max n 0:=by split <;> omega
 have hng:¬ n > 4096:=by omega
 simp only [arV,List.map_nil] at hAll
 generalize topM n t = r at *
 generalize r.1.map Cla.cs = R at *
 generalize absM (max n 0) 0 t = z at *
 generalize max n 0 = m at *
 ((try refine W.a ?_);simp only [go_sem,seval,c46])
 (refine W.c1 (hV _) ?_;simp only [go_sem,seval])
 ((try refine W.a ?_);simp only [go_sem,seval,hng])
 refine W.no rfl (W.a ?_)
 simp only [go_sem,seval]
 (refine W.c1 (hAb _) ?_;simp only [go_sem,seval])
 ((try refine W.a ?_);simp only [go_sem,seval,hmx])
 (refine W.c1w (hAll _) ?_;simp only [go_sem,seval])
 (refine W.fs (hok) (by simp only [r46,go_sem,seval];rfl) ?_;simp only [resV];try exact V.wk.rfl _)
end
section
def c129:AC:=.seq (.reg [.o 1 (.box (.t 0)),.o 2 (.box (.k (.agg zS4))),.o 3 (.mov (.k (.csl [])))]) (.seq (.seq (.reg [.f 4 0 1,.l 5 4,.o 6 (.bin .eql (.t 5) (zK 6))]) (.cond (.t 6) (.seq (.dreg [.f 7 3 1,.l 8 7,.o 9 (.iadd 4 (.t 8) (zK 0)),.d 10 4 9,.f 11 3 1,.l 12 11,.o 13 (.slr 4 (.t 12) (some (zK 1)) none none),.s 4 2 10,.m 3 13] [.q (.f 7 3 1),.q (.l 8 7),.q (.o 9 (.iadd 4 (.t 8) (zK 0))),.q (.d 10 4 9),⟨.s 4 2 10,true,0⟩,.q (.f 11 3 1),.q (.l 12 11),.q (.o 13 (.slr 4 (.t 12) (some (zK 1)) none none)),⟨.m 3 13,false,1⟩]) (.ret)) (.skip))) (.seq (.reg [.d 14 4 1,.s 4 2 14,.o 3 (.mov (.k (.csl [])))]) (.ret)))
def r129:List ResV:=[.celln 4 2,.tmp 3]
theorem k129:CodeIs Tryz.prog 129 1 Tryz.f129 c129 r129:=.auto Tryz.func129
def c132:AC:=.seq (.reg [.o 1 (.box (.t 0)),.o 2 (.box (.k (.agg zS4)))]) (.seq (.seq (.reg [.f 3 0 1,.l 4 3,.o 5 (.bin .eql (.t 4) (zK 5))]) (.cond (.t 5) (.seq (.reg [.f 6 3 1,.l 7 6,.o 8 (.iadd 4 (.t 7) (zK 0)),.d 9 4 8,.s 4 2 9]) (.ret)) (.skip))) (.seq (.reg [.d 10 4 1,.k 11 139 [.t 10,(zK 0),(zK 1)],.o 12 (.build zS4 [(0,1,(zK 3))]),.o 13 (.bsl 4 [.t 12]),.k 14 140 [.t 11,.t 13],.s 4 2 14]) (.ret)))
def r132:List ResV:=[.celln 4 2]
theorem k132:CodeIs Tryz.prog 132 1 Tryz.f132 c132 r132:=.auto Tryz.func132
def c131:AC:=.seq (.reg [.o 2 (.mov (zK 0))]) (.seq (.seq (.reg [.m 3 0,.o 4 (.bin .eql (.t 3) (.k (.c (.str [116,114,117,101])))),.m 5 4,.z 6 (.mov (.t 0)) 5,.z 7 (.bin .eql (.t 6) (.k (.c (.str [102,97,105,108])))) 5,.o 8 (.pick (.t 5) zT (.t 7)),.m 9 8,.z 10 (.mov (.t 0)) 9,.z 11 (.bin .eql (.t 10) (.k (.c (.str [33])))) 9,.o 12 (.pick (.t 9) zT (.t 11))]) (.cond (.t 12) (.seq (.reg [.o 2 (.mov (zK 0))]) (.ret)) (.skip))) (.seq (.seq (.reg [.m 13 0,.o 14 (.bin .eql (.t 13) (.k (.c (.str [112,105])))),.m 15 14,.z 16 (.mov (.t 0)) 15,.z 17 (.bin .eql (.t 16) (.k (.c (.str [115,105,103,109,97])))) 15,.o 18 (.pick (.t 15) zT (.t 17))]) (.cond (.t 18) (.seq (.reg [.o 2 (.mov (zK 1))]) (.ret)) (.skip))) (.seq (.reg [.o 2 (.mov (zK 2))]) (.ret))))
def r131:List ResV:=[.tmp 2]
theorem k131:CodeIs Tryz.prog 131 1 Tryz.f131 c131 r131:=.auto Tryz.func131
def c50:AC:=.seq (.reg [.o 1 (.box (.t 0)),.o 2 (.mov (zK 0))]) (.seq (.reg [.d 9 4 1,.k 10 129 [.t 9],.m 8 10,.x 11 8 0,.x 12 8 1,.o 3 (.box (.k (.agg zS4))),.s 4 3 11,.m 4 12]) (.seq (.seq (.reg [.f 13 0 3,.l 14 13,.o 15 (.bin .eql (.t 14) (zK 4)),.m 16 15,.z 17 (.fadd 0 (.t 3)) 16,.z 18 (.load1 (.t 17)) 16,.z 19 (.bin .eql (.t 18) (zK 3)) 16,.o 20 (.pick (.t 16) zT (.t 19))]) (.cond (.t 20) (.seq (.reg [.o 2 (.mov (zK 133))]) (.ret)) (.skip))) (.seq (.seq (.reg [.f 21 0 3,.l 22 21,.o 23 (.bin .neq (.t 22) (zK 0))]) (.cond (.t 23) (.seq (.reg [.o 2 (.mov (zK 130))]) (.ret)) (.skip))) (.seq (.seq (.reg [.f 24 1 3,.l 25 24,.k 26 130 [.t 25],.o 27 (.un .not (.t 26))]) (.cond (.t 27) (.seq (.reg [.o 2 (.mov (zK 0))]) (.ret)) (.skip))) (.seq (.seq (.reg [.m 28 4,.o 29 (.lenr (.t 28)),.f 30 1 3,.l 31 30,.k 32 131 [.t 31],.o 33 (.bin .neq (.t 29) (.t 32)),.m 34 33,.z 35 (.fadd 1 (.t 3)) 34,.z 36 (.load1 (.t 35)) 34,.z 37 (.bin .eql (.t 36) (.k (.c (.str [58,45])))) 34,.o 38 (.pick (.t 34) zT (.t 37))]) (.cond (.t 38) (.seq (.reg [.o 2 (.mov (zK 130))]) (.ret)) (.skip))) (.seq (.seq (.reg [.f 39 1 3,.l 40 39,.o 41 (.bin .eql (.t 40) (.k (.c (.str [44])))),.m 42 41,.z 43 (.fadd 1 (.t 3)) 42,.z 44 (.load1 (.t 43)) 42,.z 45 (.bin .eql (.t 44) (.k (.c (.str [59])))) 42,.o 46 (.pick (.t 42) zT (.t 45))]) (.cond (.t 46) (.seq (.reg [.m 47 4,.o 48 (.iadd 4 (.t 47) (zK 0)),.d 49 4 48,.k 50 50 [.t 49],.m 5 50]) (.seq (.seq (.reg [.m 51 5,.o 52 (.bin .neq (.t 51) (zK 0))]) (.cond (.t 52) (.seq (.reg [.m 53 5,.m 2 53]) (.ret)) (.skip))) (.seq (.reg [.m 54 4,.o 55 (.iadd 4 (.t 54) (zK 1)),.d 56 4 55,.k 57 50 [.t 56],.m 2 57]) (.ret)))) (.skip))) (.seq (.seq (.reg [.f 58 1 3,.l 59 58,.o 60 (.bin .eql (.t 59) (.k (.c (.str [61,62]))))]) (.cond (.t 60) (.seq (.reg [.m 62 4,.o 63 (.iadd 4 (.t 62) (zK 0)),.d 64 4 63,.k 65 49 [.t 64],.m 61 65,.x 66 61 0,.x 67 61 1,.m 6 66,.m 7 67]) (.seq (.seq (.reg [.m 68 7,.o 69 (.bin .neq (.t 68) (zK 0))]) (.cond (.t 69) (.seq (.reg [.m 70 7,.m 2 70]) (.ret)) (.skip))) (.seq (.reg [.m 71 4,.o 72 (.iadd 4 (.t 71) (zK 1)),.d 73 4 72,.k 74 50 [.t 73],.m 2 74]) (.ret)))) (.skip))) (.seq (.seq (.reg [.f 75 1 3,.l 76 75,.o 77 (.bin .eql (.t 76) (.k (.c (.str [112,105])))),.m 78 77,.z 79 (.fadd 1 (.t 3)) 78,.z 80 (.load1 (.t 79)) 78,.z 81 (.bin .eql (.t 80) (.k (.c (.str [115,105,103,109,97])))) 78,.o 82 (.pick (.t 78) zT (.t 81))]) (.cond (.t 82) (.seq (.reg [.m 83 4,.o 84 (.iadd 4 (.t 83) (zK 0)),.d 85 4 84,.k 86 132 [.t 85],.k 87 50 [.t 86],.m 2 87]) (.ret)) (.skip))) (.seq (.reg [.o 2 (.mov (zK 0))]) (.ret))))))))))
def r50:List ResV:=[.tmp 2]
theorem k50:CodeIs Tryz.prog 50 1 Tryz.f50 c50 r50:=.auto Tryz.func50
def c224:AC:=.seq (.reg [.o 2 (.box (.t 0)),.o 4 (.mov zF)]) (.seq (.seq (.reg [.f 11 0 2,.l 12 11,.o 13 (.bin .eql (.t 12) (zK 5))]) (.cond (.t 13) (.seq (.reg [.f 14 3 2,.l 15 14,.o 16 (.iadd 4 (.t 15) (zK 0)),.d 17 4 16,.m 18 1,.o 19 (.bin .add (.t 18) (zK 1)),.k 20 224 [.t 17,.t 19],.m 4 20]) (.ret)) (.skip))) (.seq (.reg [.d 22 4 2,.k 23 129 [.t 22],.m 21 23,.x 24 21 0,.x 25 21 1,.o 5 (.box (.k (.agg zS4))),.s 4 5 24,.m 6 25]) (.seq (.seq (.reg [.f 26 0 5,.l 27 26,.o 28 (.bin .eql (.t 27) (zK 5))]) (.cond (.t 28) (.seq (.reg [.o 4 (.mov zF)]) (.ret)) (.skip))) (.seq (.seq (.reg [.f 29 0 5,.l 30 29,.o 31 (.bin .eql (.t 30) (zK 4)),.m 32 31,.z 33 (.fadd 0 (.t 5)) 32,.z 34 (.load1 (.t 33)) 32,.z 35 (.bin .eql (.t 34) (zK 3)) 32,.z 36 (.mov (.t 35)) 32,.y 37 (.fadd 2 (.t 5)) 36,.y 38 (.load1 (.t 37)) 36,.y 39 (.mov (.t 1)) 36,.y 40 (.bin .geq (.t 38) (.t 39)) 36,.z 41 (.pick (.t 36) (.t 40) zF) 32,.o 42 (.pick (.t 32) zT (.t 41))]) (.cond (.t 42) (.seq (.seq (.reg [.o 7 (.mov (zK 0))]) (.block 0 (.loop (.seq (.seq (.reg [.m 43 7,.m 44 6,.o 45 (.lenr (.t 44)),.o 46 (.bin .lss (.t 43) (.t 45))]) (.cond (.t 46) (.skip) (.exit 0))) (.seq (.block 1 (.seq (.seq (.reg [.m 49 6,.m 50 7,.o 51 (.iadd 4 (.t 49) (.t 50)),.f 52 0 51,.l 53 52,.o 54 (.bin .neq (.t 53) (zK 3)),.m 55 54,.z 56 (.mov (.t 6)) 55,.z 57 (.mov (.t 7)) 55,.z 58 (.iadd 4 (.t 56) (.t 57)) 55,.z 59 (.fadd 2 (.t 58)) 55,.z 60 (.load1 (.t 59)) 55,.z 61 (.mov (.t 1)) 55,.z 62 (.bin .geq (.t 60) (.t 61)) 55,.o 63 (.pick (.t 55) zT (.t 62))]) (.cond (.t 63) (.seq (.reg [.o 4 (.mov zF)]) (.ret)) (.skip))) (.seq (.reg [.o 8 (.mov (zK 0))]) (.block 2 (.loop (.seq (.seq (.reg [.m 64 8,.m 65 7,.o 66 (.bin .lss (.t 64) (.t 65))]) (.cond (.t 66) (.skip) (.exit 2))) (.seq (.block 3 (.seq (.dreg [.m 69 6,.m 70 8,.o 71 (.iadd 4 (.t 69) (.t 70)),.f 72 2 71,.l 73 72,.m 74 6,.m 75 7,.o 76 (.iadd 4 (.t 74) (.t 75)),.f 77 2 76,.l 78 77,.o 79 (.bin .eql (.t 73) (.t 78))] [.q (.m 69 6),.q (.m 70 8),.q (.o 71 (.iadd 4 (.t 69) (.t 70))),.q (.f 72 2 71),.q (.l 73 72),.q (.m 74 6),.q (.m 75 7),.q (.o 76 (.iadd 4 (.t 74) (.t 75))),.q (.f 77 2 76),.q (.l 78 77),.q (.o 79 (.bin .eql (.t 73) (.t 78)))]) (.cond (.t 79) (.seq (.reg [.o 4 (.mov zF)]) (.ret)) (.skip)))) (.reg [.m 67 8,.o 68 (.bin .add (.t 67) (zK 1)),.m 8 68])))))))) (.reg [.m 47 7,.o 48 (.bin .add (.t 47) (zK 1)),.m 7 48])))))) (.seq (.reg [.o 4 (.mov zT)]) (.ret))) (.skip))) (.seq (.seq (.reg [.o 9 (.mov (zK 0))]) (.block 4 (.loop (.seq (.seq (.reg [.m 80 9,.m 81 6,.o 82 (.lenr (.t 81)),.o 83 (.bin .lss (.t 80) (.t 82))]) (.cond (.t 83) (.skip) (.exit 4))) (.seq (.block 5 (.seq (.reg [.m 86 6,.m 87 9,.o 88 (.iadd 4 (.t 86) (.t 87)),.d 89 4 88,.m 90 1,.k 91 224 [.t 89,.t 90],.m 10 91]) (.seq (.reg [.m 92 10,.o 93 (.un .not (.t 92))]) (.cond (.t 93) (.seq (.reg [.o 4 (.mov zF)]) (.ret)) (.skip))))) (.reg [.m 84 9,.o 85 (.bin .add (.t 84) (zK 1)),.m 9 85])))))) (.seq (.reg [.o 4 (.mov zT)]) (.ret)))))))
def r224:List ResV:=[.tmp 4]
theorem k224:CodeIs Tryz.prog 224 2 Tryz.f224 c224 r224:=.auto Tryz.func224
def c225:AC:=.seq (.reg [.o 3 (.box (.t 0)),.o 5 (.box (.t 2)),.o 6 (.box (.k (.agg zS4)))]) (.seq (.seq (.reg [.m 7 1,.o 8 (.un .not (.t 7))]) (.cond (.t 8) (.seq (.reg [.d 9 4 5,.s 4 6 9]) (.ret)) (.skip))) (.seq (.reg [.o 10 (.build zS4 [(1,1,(.k (.c (.str [44]))))]),.d 11 4 3,.d 12 4 5,.o 13 (.bsl 4 [.t 11,.t 12]),.k 14 140 [.t 10,.t 13],.s 4 6 14]) (.ret)))
def r225:List ResV:=[.celln 4 6]
theorem k225:CodeIs Tryz.prog 225 3 Tryz.f225 c225 r225:=.auto Tryz.func225
def c128:AC:=.seq (.reg [.o 5 (.box (.t 0)),.o 7 (.box (.t 2)),.o 10 (.mov (.k (.csl []))),.o 11 (.mov (zK 0))]) (.seq (.reg [.d 25 4 5,.k 26 129 [.t 25],.m 24 26,.x 27 24 0,.x 28 24 1,.o 12 (.box (.k (.agg zS4))),.s 4 12 27,.m 13 28]) (.seq (.seq (.reg [.f 29 0 12,.l 30 29,.o 31 (.bin .eql (.t 30) (zK 4)),.m 32 31,.z 33 (.fadd 0 (.t 12)) 32,.z 34 (.load1 (.t 33)) 32,.z 35 (.bin .eql (.t 34) (zK 3)) 32,.o 36 (.pick (.t 32) zT (.t 35))]) (.cond (.t 36) (.seq (.reg [.o 10 (.mov (.k (.csl []))),.o 11 (.mov (zK 131))]) (.ret)) (.skip))) (.seq (.seq (.reg [.f 37 0 12,.l 38 37,.o 39 (.bin .neq (.t 38) (zK 0))]) (.cond (.t 39) (.seq (.reg [.o 10 (.mov (.k (.csl []))),.o 11 (.mov (zK 130))]) (.ret)) (.skip))) (.seq (.seq (.reg [.f 40 1 12,.l 41 40,.k 42 130 [.t 41],.o 43 (.un .not (.t 42))]) (.cond (.t 43) (.seq (.seq (.reg [.o 14 (.mov (zK 0))]) (.block 0 (.loop (.seq (.seq (.reg [.m 44 14,.m 45 13,.o 46 (.lenr (.t 45)),.o 47 (.bin .lss (.t 44) (.t 46))]) (.cond (.t 47) (.skip) (.exit 0))) (.seq (.block 1 (.seq (.reg [.m 50 13,.m 51 14,.o 52 (.iadd 4 (.t 50) (.t 51)),.d 53 4 52,.k 54 224 [.t 53,(zK 0)],.m 15 54]) (.seq (.reg [.m 55 15,.o 56 (.un .not (.t 55)),.m 57 56,.y 58 (.mov (.t 4)) 57,.y 59 (.un .not (.t 58)) 57,.o 60 (.pick (.t 57) (.t 59) zF)]) (.cond (.t 60) (.seq (.reg [.o 10 (.mov (.k (.csl []))),.o 11 (.mov (zK 132))]) (.ret)) (.skip))))) (.reg [.m 48 14,.o 49 (.bin .add (.t 48) (zK 1)),.m 14 49])))))) (.seq (.reg [.d 61 4 7,.o 16 (.box (.k (.agg zS4))),.s 4 16 61]) (.seq (.seq (.reg [.m 62 3,.o 63 (.un .not (.t 62))]) (.cond (.t 63) (.reg [.o 64 (.build zS4 [(1,1,(.k (.c (.str [116,114,117,101]))))]),.s 4 16 64]) (.skip))) (.seq (.reg [.m 65 1,.d 66 4 5,.d 67 4 16,.o 68 (.build [.c (.int .i64 0),.c (.int .i64 0),.c (.str []),.c (.int .i64 0),.csl [],.c (.int .i64 0),.c (.str []),.c (.int .i64 0),.csl []] [(0,1,(.t 65)),(1,4,(.t 66)),(5,4,(.t 67))]),.o 69 (.bsl 9 [.t 68]),.m 10 69,.o 11 (.mov (zK 0))]) (.ret))))) (.skip))) (.seq (.seq (.reg [.m 70 13,.o 71 (.lenr (.t 70)),.f 72 1 12,.l 73 72,.k 74 131 [.t 73],.o 75 (.bin .neq (.t 71) (.t 74))]) (.cond (.t 75) (.seq (.reg [.o 10 (.mov (.k (.csl []))),.o 11 (.mov (zK 130))]) (.ret)) (.skip))) (.seq (.seq (.reg [.f 76 1 12,.l 77 76]) (.block 2 (.seq (.reg [.o 79 (.bin .eql (.t 77) (.k (.c (.str [44])))),.m 78 79]) (.cond (.t 78) (.seq (.dreg [.m 81 13,.o 82 (.iadd 4 (.t 81) (zK 0)),.d 83 4 82,.m 84 1,.d 85 4 7,.m 86 3,.m 87 4,.k 88 128 [.t 83,.t 84,.t 85,.t 86,.t 87],.m 80 88,.x 89 80 0,.x 90 80 1,.m 17 89,.m 18 90] [.q (.m 81 13),.q (.o 82 (.iadd 4 (.t 81) (zK 0))),.q (.d 83 4 82),.q (.m 84 1),.q (.d 85 4 7),.q (.m 86 3),.q (.m 87 4),⟨.k 88 128 [.t 83,.t 84,.t 85,.t 86,.t 87],true,0⟩,⟨.m 80 88,false,1⟩,⟨.x 89 80 0,false,1⟩,⟨.x 90 80 1,false,1⟩,⟨.m 17 89,false,1⟩,⟨.m 18 90,false,1⟩]) (.seq (.seq (.reg [.m 91 18,.o 92 (.bin .neq (.t 91) (zK 0))]) (.cond (.t 92) (.seq (.reg [.m 93 18,.o 10 (.mov (.k (.csl []))),.m 11 93]) (.ret)) (.skip))) (.seq (.dreg [.m 95 13,.o 96 (.iadd 4 (.t 95) (zK 1)),.d 97 4 96,.m 98 1,.d 99 4 7,.m 100 3,.m 101 4,.k 102 128 [.t 97,.t 98,.t 99,.t 100,.t 101],.m 94 102,.x 103 94 0,.x 104 94 1,.m 19 103,.m 20 104] [.q (.m 95 13),.q (.o 96 (.iadd 4 (.t 95) (zK 1))),.q (.d 97 4 96),.q (.m 98 1),.q (.d 99 4 7),.q (.m 100 3),.q (.m 101 4),⟨.k 102 128 [.t 97,.t 98,.t 99,.t 100,.t 101],true,0⟩,⟨.m 94 102,false,1⟩,⟨.x 103 94 0,false,1⟩,⟨.x 104 94 1,false,1⟩,⟨.m 19 103,false,1⟩,⟨.m 20 104,false,1⟩]) (.seq (.seq (.reg [.m 105 20,.o 106 (.bin .neq (.t 105) (zK 0))]) (.cond (.t 106) (.seq (.reg [.m 107 20,.o 10 (.mov (.k (.csl []))),.m 11 107]) (.ret)) (.skip))) (.seq (.reg [.m 108 17,.m 109 19,.o 110 (.app 88 9 120 (.t 108) (.t 109)),.m 10 110,.o 11 (.mov (zK 0))]) (.ret)))))) (.seq (.reg [.o 112 (.bin .eql (.t 77) (.k (.c (.str [112,105])))),.m 111 112]) (.cond (.t 111) (.seq (.dreg [.m 113 13,.o 114 (.iadd 4 (.t 113) (zK 0)),.d 115 4 114,.k 116 132 [.t 115],.m 117 1,.o 118 (.bin .add (.t 117) (zK 1)),.d 119 4 7,.k 120 139 [.t 119,(zK 0),(zK 1)],.m 121 3,.m 122 4,.k 123 128 [.t 116,.t 118,.t 120,.t 121,.t 122],.x 124 123 0,.x 125 123 1,.m 10 124,.m 11 125] [.q (.m 113 13),.q (.o 114 (.iadd 4 (.t 113) (zK 0))),.q (.d 115 4 114),⟨.k 116 132 [.t 115],true,0⟩,.q (.d 119 4 7),⟨.k 120 139 [.t 119,(zK 0),(zK 1)],true,1⟩,.q (.m 117 1),.q (.o 118 (.bin .add (.t 117) (zK 1))),.q (.m 121 3),.q (.m 122 4),⟨.k 123 128 [.t 116,.t 118,.t 120,.t 121,.t 122],true,2⟩,⟨.x 124 123 0,false,3⟩,⟨.x 125 123 1,false,3⟩,⟨.m 10 124,false,3⟩,⟨.m 11 125,false,3⟩]) (.ret)) (.seq (.seq (.reg [.o 127 (.bin .eql (.t 77) (.k (.c (.str [58,45])))),.m 126 127]) (.cond (.t 126) (.skip) (.reg [.o 128 (.bin .eql (.t 77) (.k (.c (.str [61,62])))),.m 126 128]))) (.cond (.t 126) (.seq (.reg [.m 129 13,.o 130 (.iadd 4 (.t 129) (zK 0)),.d 131 4 130,.o 21 (.box (.k (.agg zS4))),.s 4 21 131]) (.seq (.reg [.m 132 13,.o 133 (.iadd 4 (.t 132) (zK 1)),.d 134 4 133,.o 22 (.box (.k (.agg zS4))),.s 4 22 134]) (.seq (.seq (.reg [.f 135 1 12,.l 136 135,.o 137 (.bin .eql (.t 136) (.k (.c (.str [61,62]))))]) (.cond (.t 137) (.seq (.reg [.m 138 13,.o 139 (.iadd 4 (.t 138) (zK 1)),.d 140 4 139,.s 4 21 140]) (.reg [.m 141 13,.o 142 (.iadd 4 (.t 141) (zK 0)),.d 143 4 142,.s 4 22 143])) (.skip))) (.seq (.reg [.d 144 4 22,.k 145 50 [.t 144],.m 23 145]) (.seq (.seq (.reg [.m 146 23,.o 147 (.bin .neq (.t 146) (zK 0))]) (.cond (.t 147) (.seq (.reg [.m 148 23,.o 10 (.mov (.k (.csl []))),.m 11 148]) (.ret)) (.skip))) (.seq (.dreg [.d 149 4 21,.m 150 1,.d 151 4 7,.m 152 3,.d 153 4 22,.k 154 225 [.t 151,.t 152,.t 153],.m 155 4,.k 156 128 [.t 149,.t 150,.t 154,zT,.t 155],.x 157 156 0,.x 158 156 1,.m 10 157,.m 11 158] [.q (.d 151 4 7),.q (.m 152 3),.q (.d 153 4 22),⟨.k 154 225 [.t 151,.t 152,.t 153],true,0⟩,.q (.d 149 4 21),.q (.m 150 1),.q (.m 155 4),⟨.k 156 128 [.t 149,.t 150,.t 154,zT,.t 155],true,1⟩,⟨.x 157 156 0,false,2⟩,⟨.x 158 156 1,false,2⟩,⟨.m 10 157,false,2⟩,⟨.m 11 158,false,2⟩]) (.ret))))))) (.skip))))))))) (.seq (.reg [.o 10 (.mov (.k (.csl []))),.o 11 (.mov (zK 131))]) (.ret))))))))
def r128:List ResV:=[.tmp 10,.tmp 11]
theorem k128:CodeIs Tryz.prog 128 5 Tryz.f128 c128 r128:=.auto Tryz.func128
def c49:AC:=.seq (.reg [.o 1 (.box (.t 0)),.o 2 (.mov (.k (.csl []))),.o 3 (.mov (zK 0))]) (.seq (.reg [.d 4 4 1,.o 5 (.build zS4 []),.k 6 128 [.t 4,(zK 0),.t 5,zF,zF],.x 7 6 0,.x 8 6 1,.m 2 7,.m 3 8]) (.ret))
def r49:List ResV:=[.tmp 2,.tmp 3]
theorem k49:CodeIs Tryz.prog 49 1 Tryz.f49 c49 r49:=.auto Tryz.func49
def c48:AC:=.seq (.reg [.o 1 (.box (.t 0)),.o 2 (.mov (.k (.csl []))),.o 3 (.mov (zK 0))]) (.seq (.reg [.d 4 4 1,.o 5 (.build zS4 []),.k 6 128 [.t 4,(zK 0),.t 5,zF,zT],.x 7 6 0,.x 8 6 1,.m 2 7,.m 3 8]) (.ret))
def r48:List ResV:=[.tmp 2,.tmp 3]
theorem k48:CodeIs Tryz.prog 48 1 Tryz.f48 c48 r48:=.auto Tryz.func48
def c133:AC:=.seq (.reg [.o 3 (.box (.t 0)),.o 6 (.box (.k (.agg zS4)))]) (.seq (.seq (.reg [.f 10 0 3,.l 11 10,.o 12 (.bin .eql (.t 11) (zK 4)),.m 13 12,.y 14 (.fadd 2 (.t 3)) 13,.y 15 (.load1 (.t 14)) 13,.y 16 (.mov (.t 1)) 13,.y 17 (.bin .lss (.t 15) (.t 16)) 13,.o 18 (.pick (.t 13) (.t 17) zF)]) (.cond (.t 18) (.seq (.reg [.m 19 2,.m 20 1,.o 21 (.bin .add (.t 19) (.t 20)),.o 22 (.bin .sub (.t 21) (zK 1)),.f 23 2 3,.l 24 23,.o 25 (.bin .sub (.t 22) (.t 24)),.o 26 (.build zS4 [(0,1,(zK 3)),(2,1,(.t 25))]),.s 4 6 26]) (.ret)) (.skip))) (.seq (.seq (.reg [.f 27 0 3,.l 28 27,.o 29 (.bin .eql (.t 28) (zK 3)),.m 30 29,.y 31 (.fadd 2 (.t 3)) 30,.y 32 (.load1 (.t 31)) 30,.y 33 (.mov (.t 2)) 30,.y 34 (.bin .geq (.t 32) (.t 33)) 30,.o 35 (.pick (.t 30) (.t 34) zF)]) (.cond (.t 35) (.seq (.reg [.f 36 2 3,.l 37 36,.m 38 1,.o 39 (.bin .add (.t 37) (.t 38)),.o 40 (.build zS4 [(0,1,(zK 3)),(2,1,(.t 39))]),.s 4 6 40]) (.ret)) (.skip))) (.seq (.reg [.f 41 0 3,.l 42 41,.f 43 1 3,.l 44 43,.f 45 2 3,.l 46 45,.o 47 (.build zS4 [(0,1,(.t 42)),(1,1,(.t 44)),(2,1,(.t 46))]),.o 7 (.box (.k (.agg zS4))),.s 4 7 47]) (.seq (.seq (.reg [.o 8 (.mov (zK 0))]) (.block 0 (.loop (.seq (.seq (.reg [.m 48 8,.f 49 3 3,.l 50 49,.o 51 (.lenr (.t 50)),.o 52 (.bin .lss (.t 48) (.t 51))]) (.cond (.t 52) (.skip) (.exit 0))) (.seq (.block 1 (.seq (.reg [.m 55 2,.m 9 55]) (.seq (.seq (.reg [.f 56 0 3,.l 57 56,.o 58 (.bin .eql (.t 57) (zK 5))]) (.cond (.t 58) (.reg [.m 59 2,.o 60 (.bin .add (.t 59) (zK 1)),.m 9 60]) (.skip))) (.dreg [.f 61 3 7,.l 62 61,.f 63 3 3,.l 64 63,.m 65 8,.o 66 (.iadd 4 (.t 64) (.t 65)),.d 67 4 66,.m 68 1,.m 69 9,.k 70 133 [.t 67,.t 68,.t 69],.o 71 (.bsl 4 [.t 70]),.o 72 (.app 30 4 56 (.t 62) (.t 71)),.f 73 3 7,.s 1 73 72] [.q (.f 63 3 3),.q (.l 64 63),.q (.m 65 8),.q (.o 66 (.iadd 4 (.t 64) (.t 65))),.q (.d 67 4 66),.q (.m 68 1),.q (.m 69 9),⟨.k 70 133 [.t 67,.t 68,.t 69],true,0⟩,.q (.f 61 3 7),.q (.l 62 61),⟨.o 71 (.bsl 4 [.t 70]),false,1⟩,⟨.o 72 (.app 30 4 56 (.t 62) (.t 71)),true,1⟩,⟨.f 73 3 7,false,2⟩,⟨.s 1 73 72,true,2⟩])))) (.reg [.m 53 8,.o 54 (.bin .add (.t 53) (zK 1)),.m 8 54])))))) (.seq (.reg [.d 74 4 7,.s 4 6 74]) (.ret))))))
def r133:List ResV:=[.celln 4 6]
theorem k133:CodeIs Tryz.prog 133 3 Tryz.f133 c133 r133:=.auto Tryz.func133
def c51:AC:=.seq (.reg [.o 2 (.box (.t 0)),.o 4 (.mov (.k (.csl []))),.o 5 (.mov (zK 0))]) (.seq (.reg [.d 6 4 2,.m 7 1,.k 8 133 [.t 6,.t 7,(zK 0)],.m 9 1,.o 10 (.build zS4 []),.k 11 128 [.t 8,.t 9,.t 10,zF,zF],.x 12 11 0,.x 13 11 1,.m 4 12,.m 5 13]) (.ret))
def r51:List ResV:=[.tmp 4,.tmp 5]
theorem k51:CodeIs Tryz.prog 51 2 Tryz.f51 c51 r51:=.auto Tryz.func51
def c43:AC:=.seq (.reg [.o 4 (.mov zF)]) (.seq (.seq (.reg [.m 8 0,.o 9 (.lenr (.t 8)),.m 10 1,.o 11 (.lenr (.t 10)),.o 12 (.bin .neq (.t 9) (.t 11))]) (.cond (.t 12) (.seq (.reg [.o 4 (.mov zF)]) (.ret)) (.skip))) (.seq (.seq (.reg [.o 5 (.mov (zK 0))]) (.block 0 (.loop (.seq (.seq (.reg [.m 13 5,.m 14 0,.o 15 (.lenr (.t 14)),.o 16 (.bin .lss (.t 13) (.t 15))]) (.cond (.t 16) (.skip) (.exit 0))) (.seq (.block 1 (.seq (.dreg [.m 19 0,.m 20 5,.o 21 (.iadd 9 (.t 19) (.t 20)),.f 22 1 21,.d 23 4 22,.m 24 1,.m 25 5,.o 26 (.iadd 9 (.t 24) (.t 25)),.f 27 1 26,.d 28 4 27,.k 29 32 [.t 23,.t 28],.m 6 29] [.q (.m 19 0),.q (.m 20 5),.q (.o 21 (.iadd 9 (.t 19) (.t 20))),.q (.f 22 1 21),.q (.d 23 4 22),.q (.m 24 1),.q (.m 25 5),.q (.o 26 (.iadd 9 (.t 24) (.t 25))),.q (.f 27 1 26),.q (.d 28 4 27),⟨.k 29 32 [.t 23,.t 28],true,0⟩,⟨.m 6 29,false,1⟩]) (.seq (.dreg [.m 30 0,.m 31 5,.o 32 (.iadd 9 (.t 30) (.t 31)),.f 33 5 32,.d 34 4 33,.m 35 1,.m 36 5,.o 37 (.iadd 9 (.t 35) (.t 36)),.f 38 5 37,.d 39 4 38,.k 40 32 [.t 34,.t 39],.m 7 40] [.q (.m 30 0),.q (.m 31 5),.q (.o 32 (.iadd 9 (.t 30) (.t 31))),.q (.f 33 5 32),.q (.d 34 4 33),.q (.m 35 1),.q (.m 36 5),.q (.o 37 (.iadd 9 (.t 35) (.t 36))),.q (.f 38 5 37),.q (.d 39 4 38),⟨.k 40 32 [.t 34,.t 39],true,0⟩,⟨.m 7 40,false,1⟩]) (.seq (.dreg [.m 41 0,.m 42 5,.o 43 (.iadd 9 (.t 41) (.t 42)),.f 44 0 43,.l 45 44,.m 46 1,.m 47 5,.o 48 (.iadd 9 (.t 46) (.t 47)),.f 49 0 48,.l 50 49,.o 51 (.bin .neq (.t 45) (.t 50)),.m 52 51,.z 53 (.mov (.t 6)) 52,.z 54 (.un .not (.t 53)) 52,.o 55 (.pick (.t 52) zT (.t 54)),.m 56 55,.z 57 (.mov (.t 7)) 56,.z 58 (.un .not (.t 57)) 56,.o 59 (.pick (.t 56) zT (.t 58))] [.q (.m 41 0),.q (.m 42 5),.q (.o 43 (.iadd 9 (.t 41) (.t 42))),.q (.f 44 0 43),.q (.l 45 44),.q (.m 46 1),.q (.m 47 5),.q (.o 48 (.iadd 9 (.t 46) (.t 47))),.q (.f 49 0 48),.q (.l 50 49),.q (.o 51 (.bin .neq (.t 45) (.t 50))),.q (.m 52 51),.q (.z 53 (.mov (.t 6)) 52),.q (.z 54 (.un .not (.t 53)) 52),.q (.o 55 (.pick (.t 52) zT (.t 54))),.q (.m 56 55),.q (.z 57 (.mov (.t 7)) 56),.q (.z 58 (.un .not (.t 57)) 56),.q (.o 59 (.pick (.t 56) zT (.t 58)))]) (.cond (.t 59) (.seq (.reg [.o 4 (.mov zF)]) (.ret)) (.skip)))))) (.reg [.m 17 5,.o 18 (.bin .add (.t 17) (zK 1)),.m 5 18])))))) (.seq (.reg [.o 4 (.mov zT)]) (.ret))))
def r43:List ResV:=[.tmp 4]
theorem k43:CodeIs Tryz.prog 43 2 Tryz.f43 c43 r43:=.auto Tryz.func43
def c32:AC:=.seq (.reg [.o 2 (.box (.t 0)),.o 3 (.box (.t 1)),.o 4 (.mov zF)]) (.seq (.seq (.reg [.f 7 0 2,.l 8 7,.f 9 0 3,.l 10 9,.o 11 (.bin .neq (.t 8) (.t 10)),.m 12 11,.z 13 (.fadd 1 (.t 2)) 12,.z 14 (.load1 (.t 13)) 12,.z 15 (.fadd 1 (.t 3)) 12,.z 16 (.load1 (.t 15)) 12,.z 17 (.bin .neq (.t 14) (.t 16)) 12,.o 18 (.pick (.t 12) zT (.t 17)),.m 19 18,.z 20 (.fadd 2 (.t 2)) 19,.z 21 (.load1 (.t 20)) 19,.z 22 (.fadd 2 (.t 3)) 19,.z 23 (.load1 (.t 22)) 19,.z 24 (.bin .neq (.t 21) (.t 23)) 19,.o 25 (.pick (.t 19) zT (.t 24)),.m 26 25,.z 27 (.fadd 3 (.t 2)) 26,.z 28 (.load1 (.t 27)) 26,.z 29 (.lenr (.t 28)) 26,.z 30 (.fadd 3 (.t 3)) 26,.z 31 (.load1 (.t 30)) 26,.z 32 (.lenr (.t 31)) 26,.z 33 (.bin .neq (.t 29) (.t 32)) 26,.o 34 (.pick (.t 26) zT (.t 33))]) (.cond (.t 34) (.seq (.reg [.o 4 (.mov zF)]) (.ret)) (.skip))) (.seq (.seq (.reg [.o 5 (.mov (zK 0))]) (.block 0 (.loop (.seq (.seq (.reg [.m 35 5,.f 36 3 2,.l 37 36,.o 38 (.lenr (.t 37)),.o 39 (.bin .lss (.t 35) (.t 38))]) (.cond (.t 39) (.skip) (.exit 0))) (.seq (.block 1 (.seq (.dreg [.f 42 3 2,.l 43 42,.m 44 5,.o 45 (.iadd 4 (.t 43) (.t 44)),.d 46 4 45,.f 47 3 3,.l 48 47,.m 49 5,.o 50 (.iadd 4 (.t 48) (.t 49)),.d 51 4 50,.k 52 32 [.t 46,.t 51],.m 6 52] [.q (.f 42 3 2),.q (.l 43 42),.q (.m 44 5),.q (.o 45 (.iadd 4 (.t 43) (.t 44))),.q (.d 46 4 45),.q (.f 47 3 3),.q (.l 48 47),.q (.m 49 5),.q (.o 50 (.iadd 4 (.t 48) (.t 49))),.q (.d 51 4 50),⟨.k 52 32 [.t 46,.t 51],true,0⟩,⟨.m 6 52,false,1⟩]) (.seq (.reg [.m 53 6,.o 54 (.un .not (.t 53))]) (.cond (.t 54) (.seq (.reg [.o 4 (.mov zF)]) (.ret)) (.skip))))) (.reg [.m 40 5,.o 41 (.bin .add (.t 40) (zK 1)),.m 5 41])))))) (.seq (.reg [.o 4 (.mov zT)]) (.ret))))
def r32:List ResV:=[.tmp 4]
theorem k32:CodeIs Tryz.prog 32 2 Tryz.f32 c32 r32:=.auto Tryz.func32
def c205:AC:=.seq (.reg [.o 1 (.box (.t 0)),.o 2 (.mov zF)]) (.seq (.reg [.f 3 0 1,.l 4 3,.o 5 (.bin .eql (.t 4) (zK 5)),.m 6 5,.z 7 (.fadd 0 (.t 1)) 6,.z 8 (.load1 (.t 7)) 6,.z 9 (.bin .eql (.t 8) (zK 6)) 6,.o 10 (.pick (.t 6) zT (.t 9)),.m 2 10]) (.ret))
def r205:List ResV:=[.tmp 2]
theorem k205:CodeIs Tryz.prog 205 1 Tryz.f205 c205 r205:=.auto Tryz.func205
def c284:AC:=.seq (.reg [.o 2 (.box (.t 0)),.o 4 (.mov (zK 0))]) (.seq (.seq (.reg [.f 5 0 2,.l 6 5,.o 7 (.bin .eql (.t 6) (zK 5))]) (.cond (.t 7) (.seq (.reg [.m 8 1,.o 9 (.bin .add (.t 8) (zK 1)),.m 4 9]) (.ret)) (.skip))) (.seq (.reg [.m 10 1,.m 4 10]) (.ret)))
def r284:List ResV:=[.tmp 4]
theorem k284:CodeIs Tryz.prog 284 2 Tryz.f284 c284 r284:=.auto Tryz.func284
def c140:AC:=.seq (.reg [.o 2 (.box (.t 0)),.o 4 (.box (.k (.agg zS4)))]) (.seq (.seq (.reg [.m 6 1,.o 7 (.lenr (.t 6)),.o 8 (.bin .eql (.t 7) (zK 0))]) (.cond (.t 8) (.seq (.reg [.d 9 4 2,.s 4 4 9]) (.ret)) (.skip))) (.seq (.reg [.o 5 (.mov (.k (.csl [])))]) (.seq (.seq (.reg [.f 10 0 2,.l 11 10,.o 12 (.bin .eql (.t 11) (zK 6)),.m 13 12,.y 14 (.fadd 3 (.t 2)) 13,.y 15 (.load1 (.t 14)) 13,.y 16 (.lenr (.t 15)) 13,.y 17 (.bin .gtr (.t 16) (zK 0)) 13,.o 18 (.pick (.t 13) (.t 17) zF)]) (.cond (.t 18) (.reg [.m 19 5,.f 20 3 2,.l 21 20,.o 22 (.app 30 4 56 (.t 19) (.t 21)),.m 5 22]) (.reg [.m 23 5,.d 24 4 2,.o 25 (.bsl 4 [.t 24]),.o 26 (.app 30 4 56 (.t 23) (.t 25)),.m 5 26]))) (.seq (.reg [.m 27 5,.m 28 1,.o 29 (.app 30 4 56 (.t 27) (.t 28)),.m 5 29]) (.seq (.reg [.m 30 5,.o 31 (.build zS4 [(0,1,(zK 6)),(3,1,(.t 30))]),.s 4 4 31]) (.ret))))))
def r140:List ResV:=[.celln 4 4]
theorem k140:CodeIs Tryz.prog 140 2 Tryz.f140 c140 r140:=.auto Tryz.func140
def c285:AC:=.seq (.reg [.o 2 (.box (.t 0)),.o 4 (.box (.k (.agg zS4)))]) (.seq (.seq (.reg [.f 5 0 2,.l 6 5,.o 7 (.bin .eql (.t 6) (zK 6)),.m 8 7,.y 9 (.mov (.t 1)) 8,.y 10 (.lenr (.t 9)) 8,.y 11 (.bin .gtr (.t 10) (zK 1)) 8,.o 12 (.pick (.t 8) (.t 11) zF),.m 13 12,.y 14 (.mov (.t 1)) 13,.y 15 (.iadd 4 (.t 14) (zK 0)) 13,.y 16 (.fadd 0 (.t 15)) 13,.y 17 (.load1 (.t 16)) 13,.y 18 (.bin .eql (.t 17) (zK 6)) 13,.o 19 (.pick (.t 13) (.t 18) zF),.m 20 19,.y 21 (.fadd 3 (.t 2)) 20,.y 22 (.load1 (.t 21)) 20,.y 23 (.iadd 4 (.t 22) (zK 0)) 20,.y 24 (.fadd 0 (.t 23)) 20,.y 25 (.load1 (.t 24)) 20,.y 26 (.bin .neq (.t 25) (zK 6)) 20,.o 27 (.pick (.t 20) (.t 26) zF)]) (.cond (.t 27) (.seq (.dreg [.m 28 1,.o 29 (.iadd 4 (.t 28) (zK 0)),.d 30 4 29,.m 31 1,.o 32 (.slr 4 (.t 31) (some (zK 1)) none none),.k 33 140 [.t 30,.t 32],.s 4 4 33] [.q (.m 28 1),.q (.o 29 (.iadd 4 (.t 28) (zK 0))),.q (.d 30 4 29),.q (.m 31 1),.q (.o 32 (.slr 4 (.t 31) (some (zK 1)) none none)),⟨.k 33 140 [.t 30,.t 32],true,0⟩,⟨.s 4 4 33,true,1⟩]) (.ret)) (.skip))) (.seq (.reg [.f 34 0 2,.l 35 34,.f 36 1 2,.l 37 36,.f 38 2 2,.l 39 38,.m 40 1,.o 41 (.build zS4 [(0,1,(.t 35)),(1,1,(.t 37)),(2,1,(.t 39)),(3,1,(.t 40))]),.s 4 4 41]) (.ret)))
def r285:List ResV:=[.celln 4 4]
theorem k285:CodeIs Tryz.prog 285 2 Tryz.f285 c285 r285:=.auto Tryz.func285
def c228:AC:=.seq (.reg [.o 4 (.box (.t 0)),.o 8 (.box (.k (.agg zS4)))]) (.seq (.seq (.reg [.f 12 0 4,.l 13 12,.o 14 (.bin .eql (.t 13) (zK 3)),.m 15 14,.y 16 (.fadd 2 (.t 4)) 15,.y 17 (.load1 (.t 16)) 15,.y 18 (.mov (.t 3)) 15,.y 19 (.mov (.t 1)) 15,.y 20 (.bin .add (.t 18) (.t 19)) 15,.y 21 (.bin .geq (.t 17) (.t 20)) 15,.o 22 (.pick (.t 15) (.t 21) zF)]) (.cond (.t 22) (.seq (.reg [.f 23 0 4,.l 24 23,.f 25 1 4,.l 26 25,.f 27 2 4,.l 28 27,.m 29 2,.o 30 (.bin .add (.t 28) (.t 29)),.f 31 3 4,.l 32 31,.o 33 (.build zS4 [(0,1,(.t 24)),(1,1,(.t 26)),(2,1,(.t 30)),(3,1,(.t 32))]),.s 4 8 33]) (.ret)) (.skip))) (.seq (.reg [.d 34 4 4,.k 35 205 [.t 34],.m 9 35]) (.seq (.seq (.reg [.m 36 9,.o 37 (.un .not (.t 36))]) (.cond (.t 37) (.seq (.reg [.d 38 4 4,.s 4 8 38]) (.ret)) (.skip))) (.seq (.reg [.o 10 (.mov (.k (.csl [])))]) (.seq (.seq (.reg [.o 11 (.mov (zK 0))]) (.block 0 (.loop (.seq (.seq (.reg [.m 39 11,.f 40 3 4,.l 41 40,.o 42 (.lenr (.t 41)),.o 43 (.bin .lss (.t 39) (.t 42))]) (.cond (.t 43) (.skip) (.exit 0))) (.seq (.block 1 (.dreg [.m 46 10,.f 47 3 4,.l 48 47,.m 49 11,.o 50 (.iadd 4 (.t 48) (.t 49)),.d 51 4 50,.m 52 1,.m 53 2,.d 54 4 4,.m 55 3,.k 56 284 [.t 54,.t 55],.k 57 228 [.t 51,.t 52,.t 53,.t 56],.o 58 (.bsl 4 [.t 57]),.o 59 (.app 30 4 56 (.t 46) (.t 58)),.m 10 59] [.q (.d 54 4 4),.q (.m 55 3),⟨.k 56 284 [.t 54,.t 55],true,0⟩,.q (.f 47 3 4),.q (.l 48 47),.q (.m 49 11),.q (.o 50 (.iadd 4 (.t 48) (.t 49))),.q (.d 51 4 50),.q (.m 52 1),.q (.m 53 2),⟨.k 57 228 [.t 51,.t 52,.t 53,.t 56],true,1⟩,.q (.m 46 10),⟨.o 58 (.bsl 4 [.t 57]),false,2⟩,⟨.o 59 (.app 30 4 56 (.t 46) (.t 58)),true,2⟩,⟨.m 10 59,false,3⟩])) (.reg [.m 44 11,.o 45 (.bin .add (.t 44) (zK 1)),.m 11 45])))))) (.seq (.reg [.d 60 4 4,.m 61 10,.k 62 285 [.t 60,.t 61],.s 4 8 62]) (.ret)))))))
def r228:List ResV:=[.celln 4 8]
theorem k228:CodeIs Tryz.prog 228 4 Tryz.f228 c228 r228:=.auto Tryz.func228
def c139:AC:=.seq (.reg [.o 3 (.box (.t 0)),.o 6 (.box (.k (.agg zS4)))]) (.seq (.reg [.d 7 4 3,.m 8 1,.m 9 2,.k 10 228 [.t 7,.t 8,.t 9,(zK 0)],.s 4 6 10]) (.ret))
def r139:List ResV:=[.celln 4 6]
theorem k139:CodeIs Tryz.prog 139 3 Tryz.f139 c139 r139:=.auto Tryz.func139
end
section
def c9:AC:=.seq (.reg [.o 3 (.box (.t 0)),.o 4 (.box (.t 1)),.o 5 (.box (.t 2)),.o 6 (.mov zF)]) (.seq (.reg [.k 29 39 [],.m 7 29]) (.seq (.seq (.reg [.m 30 7,.o 31 (.un .not (.t 30))]) (.cond (.t 31) (.seq (.reg [.o 6 (.mov zF)]) (.ret)) (.skip))) (.seq (.reg [.d 32 4 3,.k 33 40 [.t 32],.m 8 33]) (.seq (.reg [.d 34 4 4,.k 35 40 [.t 34],.m 9 35]) (.seq (.reg [.d 36 4 5,.k 37 40 [.t 36],.m 10 37]) (.seq (.reg [.d 38 4 3,.k 39 23 [.t 38],.m 11 39]) (.seq (.reg [.d 40 4 4,.k 41 23 [.t 40],.m 12 41]) (.seq (.reg [.d 42 4 5,.k 43 23 [.t 42],.m 13 43]) (.seq (.seq (.reg [.m 44 8,.m 45 44,.z 46 (.mov (.t 9)) 45,.o 47 (.pick (.t 45) zT (.t 46)),.m 48 47,.z 49 (.mov (.t 10)) 48,.o 50 (.pick (.t 48) zT (.t 49)),.m 51 50,.z 52 (.mov (.t 11)) 51,.z 53 (.un .not (.t 52)) 51,.o 54 (.pick (.t 51) zT (.t 53)),.m 55 54,.z 56 (.mov (.t 12)) 55,.z 57 (.un .not (.t 56)) 55,.o 58 (.pick (.t 55) zT (.t 57)),.m 59 58,.z 60 (.mov (.t 13)) 59,.z 61 (.un .not (.t 60)) 59,.o 62 (.pick (.t 59) zT (.t 61))]) (.cond (.t 62) (.seq (.reg [.m 63 7,.m 6 63]) (.ret)) (.skip))) (.seq (.reg [.d 65 4 3,.k 66 41 [.t 65],.m 64 66,.x 67 64 0,.x 68 64 1,.m 14 67,.m 15 68]) (.seq (.reg [.d 70 4 4,.k 71 41 [.t 70],.m 69 71,.x 72 69 0,.x 73 69 1,.m 16 72,.m 17 73]) (.seq (.reg [.o 75 (.build zS4 [(1,1,(.k (.c (.str [44]))))]),.d 76 4 3,.d 77 4 4,.o 78 (.bsl 4 [.t 76,.t 77]),.k 79 42 [.t 75,.t 78],.k 80 41 [.t 79],.m 74 80,.x 81 74 0,.x 82 74 1,.m 18 81,.m 19 82]) (.seq (.seq (.reg [.m 83 15,.o 84 (.bin .neq (.t 83) (zK 0)),.m 85 84,.z 86 (.mov (.t 17)) 85,.z 87 (.bin .neq (.t 86) (zK 0)) 85,.o 88 (.pick (.t 85) zT (.t 87))]) (.cond (.t 88) (.seq (.reg [.m 89 7,.m 90 89,.y 91 (.mov (.t 19)) 90,.y 92 (.bin .neq (.t 91) (zK 0)) 90,.o 93 (.pick (.t 90) (.t 92) zF),.m 94 93,.y 95 (.mov (.t 18)) 94,.y 96 (.lenr (.t 95)) 94,.y 97 (.bin .eql (.t 96) (zK 0)) 94,.o 98 (.pick (.t 94) (.t 97) zF),.m 6 98]) (.ret)) (.skip))) (.seq (.reg [.o 20 (.mov (.k (.csl [])))]) (.seq (.reg [.m 99 20,.m 100 14,.o 101 (.app 88 9 120 (.t 99) (.t 100)),.m 20 101]) (.seq (.reg [.m 102 20,.m 103 16,.o 104 (.app 88 9 120 (.t 102) (.t 103)),.m 20 104]) (.seq (.reg [.m 105 18,.m 106 20,.k 107 43 [.t 105,.t 106],.m 21 107]) (.seq (.seq (.reg [.m 108 21,.o 109 (.un .not (.t 108)),.m 110 109,.z 111 (.mov (.t 19)) 110,.z 112 (.bin .neq (.t 111) (zK 0)) 110,.o 113 (.pick (.t 110) zT (.t 112))]) (.cond (.t 113) (.seq (.reg [.o 6 (.mov zF)]) (.ret)) (.skip))) (.seq (.reg [.o 115 (.build zS4 [(1,1,(.k (.c (.str [112,105]))))]),.d 116 4 3,.k 117 44 [(zK 1),.t 116],.o 118 (.bsl 4 [.t 117]),.k 119 42 [.t 115,.t 118],.k 120 41 [.t 119],.m 114 120,.x 121 114 0,.x 122 114 1,.m 22 121,.m 23 122]) (.seq (.seq (.reg [.m 123 23,.o 124 (.bin .neq (.t 123) (zK 0)),.m 125 124,.z 126 (.mov (.t 22)) 125,.z 127 (.lenr (.t 126)) 125,.z 128 (.mov (.t 14)) 125,.z 129 (.lenr (.t 128)) 125,.z 130 (.bin .neq (.t 127) (.t 129)) 125,.o 131 (.pick (.t 125) zT (.t 130))]) (.cond (.t 131) (.seq (.reg [.o 6 (.mov zF)]) (.ret)) (.skip))) (.seq (.seq (.reg [.o 24 (.mov (zK 0))]) (.block 0 (.loop (.seq (.seq (.reg [.m 132 24,.m 133 14,.o 134 (.lenr (.t 133)),.o 135 (.bin .lss (.t 132) (.t 134))]) (.cond (.t 135) (.skip) (.exit 0))) (.seq (.block 1 (.seq (.dreg [.m 138 22,.m 139 24,.o 140 (.iadd 9 (.t 138) (.t 139)),.f 141 0 140,.l 142 141,.m 143 14,.m 144 24,.o 145 (.iadd 9 (.t 143) (.t 144)),.f 146 0 145,.l 147 146,.o 148 (.bin .add (.t 147) (zK 1)),.o 149 (.bin .neq (.t 142) (.t 148))] [.q (.m 138 22),.q (.m 139 24),.q (.o 140 (.iadd 9 (.t 138) (.t 139))),.q (.f 141 0 140),.q (.l 142 141),.q (.m 143 14),.q (.m 144 24),.q (.o 145 (.iadd 9 (.t 143) (.t 144))),.q (.f 146 0 145),.q (.l 147 146),.q (.o 148 (.bin .add (.t 147) (zK 1))),.q (.o 149 (.bin .neq (.t 142) (.t 148)))]) (.cond (.t 149) (.seq (.reg [.o 6 (.mov zF)]) (.ret)) (.skip)))) (.reg [.m 136 24,.o 137 (.bin .add (.t 136) (zK 1)),.m 24 137])))))) (.seq (.reg [.o 151 (.build zS4 [(1,1,(.k (.c (.str [58,45]))))]),.d 152 4 3,.d 153 4 5,.o 154 (.bsl 4 [.t 152,.t 153]),.k 155 42 [.t 151,.t 154],.k 156 41 [.t 155],.m 150 156,.x 157 150 0,.x 158 150 1,.m 25 157,.m 26 158]) (.seq (.reg [.o 160 (.build zS4 [(1,1,(.k (.c (.str [61,62]))))]),.d 161 4 5,.d 162 4 3,.o 163 (.bsl 4 [.t 161,.t 162]),.k 164 42 [.t 160,.t 163],.k 165 41 [.t 164],.m 159 165,.x 166 159 0,.x 167 159 1,.m 27 166,.m 28 167]) (.seq (.seq (.reg [.d 168 4 5,.k 169 45 [.t 168],.o 170 (.bin .neq (.t 169) (zK 0))]) (.cond (.t 170) (.seq (.reg [.m 171 7,.m 172 171,.y 173 (.mov (.t 26)) 172,.y 174 (.loadn 4 (.t 5)) 172,.y 175 (.call (.k (.fn 45 [])) [.t 174]) 172,.y 176 (.bin .eql (.t 173) (.t 175)) 172,.o 177 (.pick (.t 172) (.t 176) zF),.m 178 177,.y 179 (.mov (.t 28)) 178,.y 180 (.mov (.t 26)) 178,.y 181 (.bin .eql (.t 179) (.t 180)) 178,.o 182 (.pick (.t 178) (.t 181) zF),.m 6 182]) (.ret)) (.skip))) (.seq (.reg [.m 183 25,.m 184 27,.k 185 43 [.t 183,.t 184],.m 21 185]) (.seq (.reg [.m 186 7,.m 187 186,.y 188 (.mov (.t 26)) 187,.y 189 (.bin .eql (.t 188) (zK 0)) 187,.o 190 (.pick (.t 187) (.t 189) zF),.m 191 190,.y 192 (.mov (.t 28)) 191,.y 193 (.bin .eql (.t 192) (zK 0)) 191,.o 194 (.pick (.t 191) (.t 193) zF),.m 195 194,.y 196 (.mov (.t 21)) 195,.o 197 (.pick (.t 195) (.t 196) zF),.m 198 197,.y 199 (.mov (.t 25)) 198,.y 200 (.lenr (.t 199)) 198,.y 201 (.mov (.t 14)) 198,.y 202 (.lenr (.t 201)) 198,.y 203 (.bin .eql (.t 200) (.t 202)) 198,.o 204 (.pick (.t 198) (.t 203) zF),.m 6 204]) (.ret)))))))))))))))))))))))))))
def c10:AC:=.seq (.reg [.o 2 (.box (.t 0)),.o 4 (.mov zF)]) (.seq (.reg [.k 24 39 [],.m 5 24]) (.seq (.seq (.reg [.m 25 5,.o 26 (.un .not (.t 25))]) (.cond (.t 26) (.seq (.reg [.o 4 (.mov zF)]) (.ret)) (.skip))) (.seq (.reg [.d 27 4 2,.k 28 40 [.t 27],.m 6 28]) (.seq (.seq (.reg [.m 29 6]) (.cond (.t 29) (.seq (.reg [.m 30 5,.m 4 30]) (.ret)) (.skip))) (.seq (.reg [.d 31 4 2,.k 32 45 [.t 31],.m 7 32]) (.seq (.reg [.d 34 4 2,.k 35 41 [.t 34],.m 33 35,.x 36 33 0,.x 37 33 1,.m 8 36,.m 9 37]) (.seq (.reg [.d 39 4 2,.m 40 1,.k 41 46 [.t 39,.t 40],.m 38 41,.x 42 38 0,.x 43 38 1,.m 10 42,.m 11 43]) (.seq (.reg [.d 45 4 2,.k 46 47 [.t 45],.m 44 46,.x 47 44 0,.x 48 44 1,.m 12 47,.m 13 48]) (.seq (.reg [.d 49 4 2,.k 50 15 [.t 49],.m 14 50]) (.seq (.seq (.reg [.m 51 14,.o 52 (.un .not (.t 51))]) (.cond (.t 52) (.seq (.reg [.m 53 5,.m 54 53,.y 55 (.mov (.t 7)) 54,.y 56 (.bin .eql (.t 55) (zK 1)) 54,.o 57 (.pick (.t 54) (.t 56) zF),.m 58 57,.y 59 (.mov (.t 9)) 58,.y 60 (.bin .eql (.t 59) (zK 1)) 58,.o 61 (.pick (.t 58) (.t 60) zF),.m 62 61,.y 63 (.mov (.t 11)) 62,.y 64 (.bin .eql (.t 63) (zK 1)) 62,.o 65 (.pick (.t 62) (.t 64) zF),.m 66 65,.y 67 (.mov (.t 13)) 66,.y 68 (.bin .eql (.t 67) (zK 1)) 66,.o 69 (.pick (.t 66) (.t 68) zF),.m 70 69,.y 71 (.mov (.t 8)) 70,.y 72 (.lenr (.t 71)) 70,.y 73 (.bin .eql (.t 72) (zK 0)) 70,.o 74 (.pick (.t 70) (.t 73) zF),.m 75 74,.y 76 (.mov (.t 10)) 75,.y 77 (.lenr (.t 76)) 75,.y 78 (.bin .eql (.t 77) (zK 0)) 75,.o 79 (.pick (.t 75) (.t 78) zF),.m 80 79,.y 81 (.mov (.t 12)) 80,.y 82 (.lenr (.t 81)) 80,.y 83 (.bin .eql (.t 82) (zK 0)) 80,.o 84 (.pick (.t 80) (.t 83) zF),.m 4 84]) (.ret)) (.skip))) (.seq (.reg [.d 86 4 2,.k 87 48 [.t 86],.m 85 87,.x 88 85 0,.x 89 85 1,.m 15 88,.m 16 89]) (.seq (.reg [.m 90 12,.m 91 15,.k 92 43 [.t 90,.t 91],.m 17 92]) (.seq (.seq (.reg [.m 93 17,.o 94 (.un .not (.t 93)),.m 95 94,.z 96 (.mov (.t 13)) 95,.z 97 (.mov (.t 16)) 95,.z 98 (.bin .neq (.t 96) (.t 97)) 95,.o 99 (.pick (.t 95) zT (.t 98))]) (.cond (.t 99) (.seq (.reg [.o 4 (.mov zF)]) (.ret)) (.skip))) (.seq (.reg [.d 101 4 2,.k 102 49 [.t 101],.m 100 102,.x 103 100 0,.x 104 100 1,.m 18 103,.m 19 104]) (.seq (.reg [.m 105 8,.m 106 18,.k 107 43 [.t 105,.t 106],.m 20 107]) (.seq (.seq (.reg [.m 108 20,.o 109 (.un .not (.t 108)),.m 110 109,.z 111 (.mov (.t 9)) 110,.z 112 (.mov (.t 19)) 110,.z 113 (.bin .neq (.t 111) (.t 112)) 110,.o 114 (.pick (.t 110) zT (.t 113)),.m 115 114,.z 116 (.mov (.t 7)) 115,.z 117 (.loadn 4 (.t 2)) 115,.z 118 (.call (.k (.fn 50 [])) [.t 117]) 115,.z 119 (.bin .neq (.t 116) (.t 118)) 115,.o 120 (.pick (.t 115) zT (.t 119))]) (.cond (.t 120) (.seq (.reg [.o 4 (.mov zF)]) (.ret)) (.skip))) (.seq (.seq (.reg [.m 121 1,.o 122 (.bin .gtr (.t 121) (zK 4096))]) (.cond (.t 122) (.seq (.reg [.m 123 5,.m 124 123,.y 125 (.mov (.t 11)) 124,.y 126 (.bin .eql (.t 125) (zK 1)) 124,.o 127 (.pick (.t 124) (.t 126) zF),.m 128 127,.y 129 (.mov (.t 10)) 128,.y 130 (.lenr (.t 129)) 128,.y 131 (.bin .eql (.t 130) (zK 0)) 128,.o 132 (.pick (.t 128) (.t 131) zF),.m 4 132]) (.ret)) (.skip))) (.seq (.reg [.d 134 4 2,.m 135 1,.o 136 (.mx (.t 135) (zK 0)),.k 137 51 [.t 134,.t 136],.m 133 137,.x 138 133 0,.x 139 133 1,.m 21 138,.m 22 139]) (.seq (.reg [.m 140 10,.m 141 21,.k 142 43 [.t 140,.t 141],.m 23 142]) (.seq (.reg [.m 143 5,.m 144 143,.y 145 (.mov (.t 23)) 144,.o 146 (.pick (.t 144) (.t 145) zF),.m 147 146,.y 148 (.mov (.t 11)) 147,.y 149 (.mov (.t 22)) 147,.y 150 (.bin .eql (.t 148) (.t 149)) 147,.o 151 (.pick (.t 147) (.t 150) zF),.m 4 151]) (.ret)))))))))))))))))))))
def r10:List ResV:=[.tmp 4]
theorem k10:CodeIs Tryz.prog 10 2 Tryz.f10 c10 r10:=.auto Tryz.func10
def c40:AC:=.seq (.reg [.o 1 (.box (.t 0)),.o 2 (.mov zF)]) (.seq (.reg [.d 4 4 1,.k 5 53 [.t 4,(zK 1099511627776)],.m 3 5]) (.seq (.reg [.d 6 4 1,.k 7 52 [.t 6,(zK 80)],.m 8 7,.z 9 (.mov (.t 3)) 8,.z 10 (.un .not (.t 9)) 8,.o 11 (.pick (.t 8) zT (.t 10)),.m 2 11]) (.ret)))
def r40:List ResV:=[.tmp 2]
theorem k40:CodeIs Tryz.prog 40 1 Tryz.f40 c40 r40:=.auto Tryz.func40
end
section
attribute [local go_sem] Typ.v Typ.cs_eq tk_mk tname_mk tn_mk tl_mk tysC Cla.cs
theorem ref07_Same (w0:World) (p:Typ):∀ (σ:H),DC Tryz.prog w0 32 [p.v,p.v] σ (Same (B true) σ):=by
 refine Typ.ind (P:=fun p=>∀ (σ:H),DC Tryz.prog w0 32 [p.v,p.v] σ (Same (B true) σ)) (fun p ih σ=>?_) p
 refine k32.go rfl (fun hok hsz=>?_)
 have hlen:=typ_len hsz (List.mem_cons_self ..)
 ((try refine W.a ?_);simp only [go_sem,seval,c32,bne_self_eq_false'])
 refine W.no rfl (W.a ?_)
 simp only [go_sem,seval]
 refine W.loopP (fun i=>i ≤ p.l.length) (fun i=>⟨((((base.put (some 2) (.ptr σ.length 0)).put (some 3) (.ptr (σ.length + 1) 0)).put (some 4) (B false)).put (some 5) (I (i:Nat))),σ ++ [.cells p.v.cellsV,.cells p.v.cellsV]⟩) (fun i=>p.l.length - i) 0 (Nat.zero_le _) ?_ (fun i hi=>?_)
 ·(refine Lew.env ?_;exact lee_here)
 by_cases hlt:i < p.l.length
 ·have h1:((i:Int) < (p.l.length:Int)):=by omega
  have hx:p.l[i]? = some p.l[i]:=List.getElem?_eq_getElem hlt
  have hw:IntKind.i64.wrap ((i:Int) + 1) = ((i + 1:Nat):Int):=wrap_next hlt hlen
  have hS:=fun σ=>ih p.l[i] (List.getElem_mem hlt) σ
  generalize p.l[i] = u at *
  ((try refine W.a ?_);simp only [go_sem,seval,h1])
  refine W.yes rfl (W.a ?_);simp only [go_sem,seval];apply W.dregE (List.cons_ne_nil _ _)
  case hc=>
   (apply CanonE.advPO;simp only [go_sem,seval,h1,nat0,hx])
   (apply CanonE.call (hS _);(case hg=>rfl);(case hf=>rfl);(case ha=>first | rfl | simp))
   (apply CanonE.advPO;simp only [go_sem,seval])
   exact CanonE.nil
  ((try refine W.a ?_);simp only [go_sem,seval])
  refine W.no rfl (W.a ?_);simp only [go_sem,seval,hw];refine .inv ⟨i + 1,hlt,by omega,?_⟩
  (refine Lew.env ?_;exact lee_here)
 have h1:¬ ((i:Int) < (p.l.length:Int)):=by omega
 ((try refine W.a ?_);simp only [go_sem,seval,h1])
 refine W.no rfl (W.a ?_)
 simp only [go_sem,seval]
 (refine W.fs (hok) (by simp only [r32,go_sem,seval];rfl) ?_;simp only [resV];try exact V.wk.rfl _)
theorem ref13_Same (w0:World) (l:List Cla) (hn:l.length ≤ 1000000) (σ:H):DC Tryz.prog w0 43 [.c (.sl (l.map Cla.cs)),.c (.sl (l.map Cla.cs))] σ (Same (B true) σ):=by
 refine k43.go rfl (fun hok hsz=>?_)
 ((try refine W.a ?_);simp only [go_sem,seval,c43,bne_self_eq_false'])
 refine W.no rfl (W.a ?_)
 simp only [go_sem,seval]
 refine W.loopP (fun i=>i ≤ l.length) (fun i=>⟨((((base.put (some 0) (.c (.sl (l.map Cla.cs)))).put (some 1) (.c (.sl (l.map Cla.cs)))).put (some 4) (B false)).put (some 5) (I (i:Nat))),σ⟩) (fun i=>l.length - i) 0 (Nat.zero_le _) ?_ (fun i hi=>?_)
 ·(refine Lew.env ?_;exact lee_here)
 by_cases hlt:i < l.length
 ·have h1:((i:Int) < (l.length:Int)):=by omega
  have hx:l[i]? = some l[i]:=List.getElem?_eq_getElem hlt
  have hw:IntKind.i64.wrap ((i:Int) + 1) = ((i + 1:Nat):Int):=wrap_next hlt (by omega)
  have hH:=fun σ=>ref07_Same w0 l[i].head σ
  have hB:=fun σ=>ref07_Same w0 l[i].body σ
  generalize l[i] = u at *
  ((try refine W.a ?_);simp only [go_sem,seval,h1])
  refine W.yes rfl (W.a ?_);simp only [go_sem,seval];apply W.dregE (List.cons_ne_nil _ _)
  case hc=>
   (apply CanonE.advPO;simp only [go_sem,seval,h1,nat0,hx])
   (apply CanonE.call (hH _);(case hg=>rfl);(case hf=>rfl);(case ha=>first | rfl | simp))
   (apply CanonE.advPO;simp only [go_sem,seval])
   exact CanonE.nil
  ((try refine W.a ?_);simp only [go_sem,seval])
  apply W.dregE (List.cons_ne_nil _ _)
  case hc=>
   (apply CanonE.advPO;simp only [go_sem,seval,h1,nat0,hx])
   (apply CanonE.call (hB _);(case hg=>rfl);(case hf=>rfl);(case ha=>first | rfl | simp))
   (apply CanonE.advPO;simp only [go_sem,seval])
   exact CanonE.nil
  ((try refine W.a ?_);simp only [go_sem,seval])
  (apply W.dregE (List.cons_ne_nil _ _);case hc=>((apply CanonE.advPO;simp only [go_sem,seval,h1,nat0,hx,bne_self_eq_false']);exact CanonE.nil))
  ((try refine W.a ?_);simp only [go_sem,seval])
  refine W.no rfl (W.a ?_);simp only [go_sem,seval,hw];refine .inv ⟨i + 1,hlt,by omega,?_⟩
  (refine Lew.env ?_;exact lee_here)
 have h1:¬ ((i:Int) < (l.length:Int)):=by omega
 ((try refine W.a ?_);simp only [go_sem,seval,h1])
 refine W.no rfl (W.a ?_)
 simp only [go_sem,seval]
 (refine W.fs (hok) (by simp only [r43,go_sem,seval];rfl) ?_;simp only [resV];try exact V.wk.rfl _)
def over13 (t:Typ):Bool:=decide (leftT t 80 < 0) || !nearM 1099511627776 t
theorem over13_no {t:Typ} (h:over13 t = false) (hv:validM t = true):Small t:=by
 unfold over13 at h
 simp only [Bool.or_eq_false_iff,decide_eq_false_iff_not,Bool.not_eq_false'] at h
 refine ⟨hv,?_,h.2⟩
 have:=leftT_nodesM t 80 (by omega)
 omega
theorem law13_over (w0:World) (t:Typ) (σ:H):DC Tryz.prog w0 40 [t.v] σ (Same (B (over13 t)) σ):=by
 refine k40.go rfl (fun hok hsz=>?_)
 have hN:=fun σ=>ref07_Near w0 1099511627776 (by decide) (by decide) t σ
 have hL:=fun σ=>ref07_Large w0 t 80 (by decide) (by decide) σ
 unfold over13
 generalize decide (leftT t 80 < 0) = bl at *
 generalize nearM 1099511627776 t = bn at *
 ((try refine W.a ?_);simp only [go_sem,seval,c40])
 (refine W.c1 (hN _) ?_;simp only [go_sem,seval])
 ((try refine W.a ?_);simp only [go_sem,seval])
 (refine W.c1 (hL _) ?_;simp only [go_sem,seval])
 cases bl
 ·((try refine W.a ?_);simp only [go_sem,seval])
  (refine W.fs (hok) (by simp only [r40,go_sem,seval];rfl) ?_;simp only [resV];try exact V.wk.rfl _)
 ·((try refine W.a ?_);simp only [go_sem,seval])
  (refine W.fs (hok) (by simp only [r40,go_sem,seval];rfl) ?_;simp only [resV];try exact V.wk.rfl _)
end
section
attribute [local go_sem] Typ.v Typ.cs_eq tk_mk tname_mk tn_mk tl_mk tysC
theorem ref07_inner (w0:World) (t:Typ) (σ:H):DC Tryz.prog w0 205 [t.v] σ (Same (B (t.k == 5 || t.k == 6)) σ):=by
 refine k205.go rfl (fun hok hsz=>?_)
 cases k5:(t.k == 5)
 ·(refine W.a ?_;simp only [go_sem,seval,c205,k5])
  (refine W.fs (hok) (by simp only [r205,go_sem,seval];rfl) ?_;simp only [resV];try exact V.wk.rfl _)
 ·(refine W.a ?_;simp only [go_sem,seval,c205,k5])
  (refine W.fs (hok) (by simp only [r205,go_sem,seval];rfl) ?_;simp only [resV];try exact V.wk.rfl _)
theorem ref07_under (w0:World) (t:Typ) (k:Nat) (hk:k ≤ 1000000) (σ:H):DC Tryz.prog w0 284 [t.v,I (k:Int)] σ (Same (I ((if t.k = 5 then k + 1 else k:Nat):Int)) σ):=by
 refine k284.go rfl (fun hok hsz=>?_)
 have hw:IntKind.i64.wrap ((k:Int) + 1) = ((k + 1:Nat):Int):=by rw [wrap_in] <;> omega
 by_cases h5:t.k = 5
 ·have k5:(t.k == 5) = true:=by simp [h5]
  rw [if_pos h5];clear h5
  (refine W.a ?_;simp only [go_sem,seval,c284,k5])
  refine W.yes rfl (W.a ?_);simp only [go_sem,seval,hw]
  (refine W.fs (hok) (by simp only [r284,go_sem,seval];rfl) ?_;simp only [resV];try exact V.wk.rfl _)
 ·have k5:(t.k == 5) = false:=by simp [h5]
  rw [if_neg h5];clear h5
  (refine W.a ?_;simp only [go_sem,seval,c284,k5])
  refine W.no rfl (W.a ?_);simp only [go_sem,seval]
  (refine W.fs (hok) (by simp only [r284,go_sem,seval];rfl) ?_;simp only [resV];try exact V.wk.rfl _)
theorem ref07_Apply (w0:World) (f:Typ) (xs:List Typ) (hn:f.l.length + xs.length ≤ 999998) (σ:H):DC Tryz.prog w0 140 [f.v,.c (.sl (xs.map Typ.cs))] σ (Same (applyM f xs).v σ):=by
 refine k140.go rfl (fun hok hsz=>?_)
 by_cases h0:xs = []
 ·have e:applyM f xs = f:=by unfold applyM;rw [if_pos h0]
  rw [e];subst h0
  (refine W.a ?_;simp only [go_sem,seval,c140])
  refine W.yes rfl (W.a ?_);simp only [go_sem,seval]
  (refine W.fs (hok) (by simp only [r140,go_sem,seval];rfl) ?_;simp only [resV];try exact V.wk.rfl _)
  all_goals (all_goals exact wk_here)
 have hl:0 < xs.length:=List.length_pos_iff.2 h0
 have q0:((xs.length:Int) == 0) = false:=by simp;omega
 have e:applyM f xs = .mk 6 [] 0 ((if f.k = 6 ∧ f.l ≠ [] then f.l else [f]) ++ xs):=by unfold applyM;rw [if_neg h0]
 rw [e]
 clear e
 have hallX:=eq_true (rows4 xs)
 have hallF:=eq_true (rows4 f.l)
 have b1:f.l.length * 56 ≤ 140737488355328:=by omega
 have b2:f.l.length ≤ 140737488355328:=by omega
 have b3:(f.l.length + xs.length) * 56 ≤ 140737488355328:=by omega
 have b4:f.l.length + xs.length ≤ 140737488355328:=by omega
 have b5:(1 + xs.length) * 56 ≤ 140737488355328:=by omega
 have b6:1 + xs.length ≤ 140737488355328:=by omega
 have hA:(f.l ++ xs).map Typ.cs = f.l.map Typ.cs ++ xs.map Typ.cs:=List.map_append
 have hB:([f] ++ xs).map Typ.cs = [.int .i64 f.k,.str f.name,.int .i64 f.n,.sl (f.l.map Typ.cs)] :: xs.map Typ.cs:=by rw [List.cons_append,List.nil_append,List.map_cons,Typ.cs_eq]
 by_cases h6:f.k = 6
 ·have k6:(f.k == 6) = true:=by simp [h6]
  by_cases hf:f.l = []
  ·rw [if_neg (fun h=>h.2 hf)]
   have q1:¬ ((f.l.length:Int) > 0):=by rw [hf];simp
   clear h6 hf
   (refine W.a ?_;simp only [go_sem,seval,c140,q0])
   refine W.no rfl (W.a ?_);simp only [go_sem,seval,k6,q1];refine W.no rfl (W.a ?_);simp only [go_sem,seval,hallX,hallF,b1,b2,b3,b4,b5,b6,true_or]
   (refine W.fs (hok) (by simp only [r140,go_sem,seval,hB];rfl) ?_ (hl:=by (first | exact .c _ | (simp only [go_sem,seval,hB];done)));simp only [resV,hB];try exact V.wk.rfl _)
   all_goals (all_goals exact wk_here)
  ·rw [if_pos ⟨h6,hf⟩]
   have hp:0 < f.l.length:=List.length_pos_iff.2 hf
   have q1:((f.l.length:Int) > 0):=by omega
   clear h6 hf
   (refine W.a ?_;simp only [go_sem,seval,c140,q0])
   refine W.no rfl (W.a ?_);simp only [go_sem,seval,k6,q1];refine W.yes rfl (W.a ?_);simp only [go_sem,seval,hallX,hallF,b1,b2,b3,b4,b5,b6,true_or]
   (refine W.fs (hok) (by simp only [r140,go_sem,seval,hA];rfl) ?_ (hl:=by (first | exact .c _ | (simp only [go_sem,seval,hA];done)));simp only [resV,hA];try exact V.wk.rfl _)
   all_goals (all_goals exact wk_here)
 ·have k6:(f.k == 6) = false:=by simp [h6]
  rw [if_neg (fun h=>h6 h.1)]
  clear h6
  (refine W.a ?_;simp only [go_sem,seval,c140,q0])
  refine W.no rfl (W.a ?_);simp only [go_sem,seval,k6];refine W.no rfl (W.a ?_);simp only [go_sem,seval,hallX,hallF,b1,b2,b3,b4,b5,b6,true_or]
  (refine W.fs (hok) (by simp only [r140,go_sem,seval,hB];rfl) ?_ (hl:=by (first | exact .c _ | (simp only [go_sem,seval,hB];done)));simp only [resV,hB];try exact V.wk.rfl _)
  all_goals (all_goals exact wk_here)
theorem ref07_with (w0:World) (t:Typ) (o:List Typ) (ho:o.length ≤ 400000) (hb:∀ u ∈ o,u.l.length ≤ 400000) (ht:1 < o.length → t.l ≠ []) (σ:H):DC Tryz.prog w0 285 [t.v,.c (.sl (o.map Typ.cs))] σ (Same (withM t o).v σ):=by
 refine k285.go rfl (fun hok hsz=>?_)
 obtain ⟨z,hz⟩:∃ z,z = withM t o:=⟨_,rfl⟩
 rw [← hz]
 by_cases h6:t.k = 6
 ·have k6:(t.k == 6) = true:=by simp [h6]
  by_cases c1:1 < o.length
  ·obtain ⟨o0,o1,rfl⟩:∃ a l,o = a :: l:=by
    cases o with
    | nil=>simp at c1
    | cons a l=>exact ⟨a,l,rfl⟩
   obtain ⟨t0,t1,hl⟩:∃ a l,t.l = a :: l:=by
    have:=ht c1
    cases h:t.l with
    | nil=>exact absurd h this
    | cons a l=>exact ⟨a,l,rfl⟩
   have hx:t.l[0]? = some t0:=by rw [hl];rfl
   have hhd:(t.l.headD .none) = t0:=by rw [hl];rfl
   have q1:((o1.length + 1:Nat):Int) > 1:=by simp at c1;omega
   have h00:(0:Int) < ((o1.length + 1:Nat):Int):=by omega
   have hl00:(0:Int) < (t.l.length:Int):=by rw [hl,List.length_cons];omega
   by_cases c2:o0.k = 6
   ·have p2:(o0.k == 6) = true:=by simp [c2]
    by_cases c3:t0.k = 6
    ·have p3:(t0.k == 6) = true:=by simp [c3]
     have hz':z = .mk t.k t.name t.n (o0 :: o1):=by
      rw [hz,withM,if_neg (fun h=>h.2.2.2 (by rw [hhd];exact c3))]
     subst hz';clear c3 c2 h6 hhd hz hl ht
     (refine W.a ?_;simp only [go_sem,seval,c285,k6,q1,p2,p3,hx,nat0,bne,h00,hl00])
     refine W.no rfl (W.a ?_);simp only [go_sem,seval]
     (refine W.fs (hok) (by simp only [r285,go_sem,seval];rfl) ?_;simp only [resV];try exact V.wk.rfl _)
     all_goals (all_goals exact wk_here)
    ·have p3:(t0.k == 6) = false:=by simp [c3]
     have hz':z = applyM o0 o1:=by
      rw [hz,withM,if_pos ⟨h6,c1,c2,by rw [hhd];exact c3⟩];rfl
     have hbb:=hb o0 (List.mem_cons_self ..)
     have hA:=fun σ=>ref07_Apply w0 o0 o1 (by simp at ho;omega) σ
     rw [← hz'] at hA
     have hall:=eq_true (rows4 (o0 :: o1))
     rw [List.map_cons,Typ.cs_eq] at hall
     have hlen1:(1:Int) ≤ ((o1.length + 1:Nat):Int):=by omega
     have htk:List.take o1.length (List.map Typ.cs o1) = List.map Typ.cs o1:=List.take_of_length_le (by simp)
     clear c3 c2 h6 hhd hz hl ht hz'
     (refine W.a ?_;simp only [go_sem,seval,c285,k6,q1,p2,p3,hx,nat0,bne,h00,hl00])
     refine W.yes rfl (W.a ?_);simp only [go_sem,seval];apply W.dregE (List.cons_ne_nil _ _)
     case hc=>
      (apply CanonE.advPO;simp only [go_sem,seval,hall,hlen1,h00,htk,nat0,Nat.add_sub_cancel])
      (apply CanonE.call (hA _);(case hg=>rfl);(case hf=>rfl);(case ha=>first | rfl | simp))
      (apply CanonE.advPO;simp only [go_sem,seval])
      exact CanonE.nil
     (refine W.a ?_;simp only [go_sem,seval])
     (refine W.fs (hok) (by simp only [r285,go_sem,seval];rfl) ?_;simp only [resV];try exact V.wk.rfl _)
     all_goals (all_goals exact wk_here)
   ·have p2:(o0.k == 6) = false:=by simp [c2]
    have hz':z = .mk t.k t.name t.n (o0 :: o1):=by
     rw [hz,withM,if_neg (fun h=>c2 h.2.2.1)]
    subst hz';clear c2 h6 hhd hz hl ht
    (refine W.a ?_;simp only [go_sem,seval,c285,k6,q1,p2,hx,nat0,bne,h00,hl00])
    refine W.no rfl (W.a ?_);simp only [go_sem,seval]
    (refine W.fs (hok) (by simp only [r285,go_sem,seval];rfl) ?_;simp only [resV];try exact V.wk.rfl _)
    all_goals (all_goals exact wk_here)
  ·have q1:¬ ((o.length:Int) > 1):=by omega
   have hz':z = .mk t.k t.name t.n o:=by
    rw [hz,withM,if_neg (fun h=>c1 h.2.1)]
   subst hz';clear c1 h6 hz ht
   (refine W.a ?_;simp only [go_sem,seval,c285,k6,q1])
   refine W.no rfl (W.a ?_);simp only [go_sem,seval]
   (refine W.fs (hok) (by simp only [r285,go_sem,seval];rfl) ?_;simp only [resV];try exact V.wk.rfl _)
   all_goals (all_goals exact wk_here)
 ·have k6:(t.k == 6) = false:=by simp [h6]
  have hz':z = .mk t.k t.name t.n o:=by
   rw [hz,withM,if_neg (fun h=>h6 h.1)]
  subst hz';clear h6 hz ht
  (refine W.a ?_;simp only [go_sem,seval,c285,k6])
  refine W.no rfl (W.a ?_);simp only [go_sem,seval]
  (refine W.fs (hok) (by simp only [r285,go_sem,seval];rfl) ?_;simp only [resV];try exact V.wk.rfl _)
  all_goals (all_goals exact wk_here)
theorem ref07_shift (w0:World) (a b:Int) (ha:0 ≤ a) (ha':a ≤ 100000) (hb:0 ≤ b) (hb':b ≤ 1152921504606846976) (t:Typ):nearM 2305843009213693952 t = true → ∀ (k:Nat),k + nodesM t ≤ 400000 → ∀ σ,DC Tryz.prog w0 228 [t.v,I a,I b,I (k:Int)] σ (Same (walkM (shiftF a b) (k:Int) t).v σ):=by
 refine Typ.ind (P:=fun t=>nearM 2305843009213693952 t = true → ∀ (k:Nat),k + nodesM t ≤ 400000 → ∀ σ,DC Tryz.prog w0 228 [t.v,I a,I b,I (k:Int)] σ (Same (walkM (shiftF a b) (k:Int) t).v σ)) (fun t ih hnr k hk σ=>?_) t
 refine k228.go rfl (fun hok hsz=>?_)
 have hp:=nodesM_pos t
 have hw1:IntKind.i64.wrap ((k:Int) + a) = (k:Int) + a:=by rw [wrap_in] <;> omega
 have hIn:=fun σ=>ref07_inner w0 t σ
 by_cases hlf:t.k ≠ 5 ∧ t.k ≠ 6
 ·have k5:(t.k == 5) = false:=by simp [hlf.1]
  have k6:(t.k == 6) = false:=by simp [hlf.2]
  rw [walkM_eq,if_neg hlf.1,if_neg hlf.2];rw [k5,k6] at hIn
  by_cases h3:t.k = 3
  ·have k3:(t.k == 3) = true:=by simp [h3]
   have hnn:=near_node hnr (by omega)
   by_cases hge:t.n ≥ (k:Int) + a
   ·have hw2:IntKind.i64.wrap (t.n + b) = t.n + b:=by rw [wrap_in] <;> omega
    have e:shiftF a b t (k:Int) = .mk t.k t.name (t.n + b) t.l:=by unfold shiftF;rw [if_pos ⟨h3,hge⟩]
    rw [e];clear hlf h3 ih
    (refine W.a ?_;simp only [go_sem,seval,c228,k3,hw1,hge])
    refine W.yes rfl (W.a ?_);simp only [go_sem,seval,hw2]
    (refine W.fs (hok) (by simp only [r228,go_sem,seval];rfl) ?_;simp only [resV];try exact V.wk.rfl _)
    all_goals (all_goals exact wk_here)
   ·have e:shiftF a b t (k:Int) = t:=by unfold shiftF;rw [if_neg (fun h=>hge h.2)]
    rw [e];clear hlf h3 ih
    (refine W.a ?_;simp only [go_sem,seval,c228,k3,hw1,hge])
    refine W.no rfl (W.a ?_);simp only [go_sem,seval]
    (refine W.c1 (hIn _) ?_;simp only [go_sem,seval])
    (refine W.a ?_;simp only [go_sem,seval])
    refine W.yes rfl (W.a ?_);simp only [go_sem,seval]
    (refine W.fs (hok) (by simp only [r228,go_sem,seval];rfl) ?_;simp only [resV];try exact V.wk.rfl _)
    all_goals (all_goals exact wk_here)
  ·have k3:(t.k == 3) = false:=by simp [h3]
   have e:shiftF a b t (k:Int) = t:=by unfold shiftF;rw [if_neg (fun h=>h3 h.1)]
   rw [e];clear hlf h3 ih
   (refine W.a ?_;simp only [go_sem,seval,c228,k3])
   refine W.no rfl (W.a ?_);simp only [go_sem,seval]
   (refine W.c1 (hIn _) ?_;simp only [go_sem,seval])
   (refine W.a ?_;simp only [go_sem,seval])
   refine W.yes rfl (W.a ?_);simp only [go_sem,seval]
   (refine W.fs (hok) (by simp only [r228,go_sem,seval];rfl) ?_;simp only [resV];try exact V.wk.rfl _)
   all_goals (all_goals exact wk_here)
 have hk56:t.k = 5 ∨ t.k = 6:=by omega
 have hin:(t.k == 5 || t.k == 6) = true:=by rcases hk56 with h | h <;> simp [h]
 rw [hin] at hIn
 have k3:(t.k == 3) = false:=by rcases hk56 with h | h <;> simp [h]
 obtain ⟨B,hB⟩:∃ B:Nat,B = (if t.k = 5 then k + 1 else k):=⟨_,rfl⟩
 have hBk:B ≤ k + 1:=by rw [hB];split <;> omega
 have hUn:=fun σ=>ref07_under w0 t k (by omega) σ
 rw [← hB] at hUn
 have hwk:walkM (shiftF a b) (k:Int) t = withM t (t.l.map (walkM (shiftF a b) (B:Int))):=by
  rw [walkM_eq];rcases hk56 with h | h
  ·rw [if_pos h,hB,if_pos h];rfl
  ·rw [if_neg (by omega),if_pos h,hB,if_neg (by omega)]
 rw [hwk]
 obtain ⟨o,ho⟩:∃ o,o = t.l.map (walkM (shiftF a b) (B:Int)):=⟨_,rfl⟩
 have hol:o.length = t.l.length:=by rw [ho,List.length_map]
 have hlen:=kids_nodes t
 have hkids:∀ i (hi:i < t.l.length) (hi':i < o.length) σ,DC Tryz.prog w0 228 [t.l[i].v,I a,I b,I (B:Int)] σ (Same o[i].v σ):=fun i hi hi' σ=>by
  have hm:=List.getElem_mem hi
  have:=nodesM_mem hm
  have e:o[i] = walkM (shiftF a b) (B:Int) t.l[i]:=by simp [ho]
  rw [e];exact ih _ hm (near_kids hnr _ hm) B (by omega) σ
 have hbig:∀ u ∈ o,u.l.length ≤ 400000:=fun u hu=>by
  rw [ho] at hu;obtain ⟨v,hv,rfl⟩:=List.mem_map.1 hu
  have h1:=shift_nodes a b v B
  have h2:=kids_nodes (walkM (shiftF a b) (B:Int) v)
  have h3:=nodesM_mem hv
  omega
 have hW:=fun σ=>ref07_with w0 t o (by omega) hbig (fun h e=>by rw [e,List.length_nil] at hol;omega) σ
 rw [← ho]
 clear ho hB hwk ih
 generalize withM t o = z at *
 (refine W.a ?_;simp only [go_sem,seval,c228,k3])
 refine W.no rfl (W.a ?_)
 simp only [go_sem,seval]
 (refine W.c1 (hIn _) ?_;simp only [go_sem,seval])
 (refine W.a ?_;simp only [go_sem,seval])
 refine W.no rfl (W.a ?_)
 simp only [go_sem,seval]
 refine W.own 10 30 4 rfl ?_
 (refine W.a ?_;simp only [go_sem,seval])
 refine W.loopP (fun i=>i ≤ t.l.length) (fun i=>⟨(((((((base.put (some 1) (I a)).put (some 2) (I b)).put (some 3) (I (k:Int))).put (some 4) (.ptr σ.length 0)).put (some 8) (.ptr (σ.length + 1) 0)).put (some 10) (.osl (σ.length + 2) ((o.take i).map Typ.cs))).put (some 11) (I (i:Int))),σ ++ [.cells t.v.cellsV,.cells [I 0,S [],I 0,.csl []],.spare 30 4 i]⟩) (fun i=>t.l.length - i) 0 (Nat.zero_le _) ?_ (fun i hi=>?_)
 ·(refine Lew.env ?_;exact lee_here)
 by_cases hlt:i < t.l.length
 ·have hlt':i < o.length:=by omega
  have h1:(i:Int) < (t.l.length:Int):=by omega
  have h0:(0:Int) ≤ (i:Int):=by omega
  have hx:t.l[i]? = some t.l[i]:=List.getElem?_eq_getElem hlt
  have hw:IntKind.i64.wrap ((i:Int) + 1) = ((i + 1:Nat):Int):=by rw [wrap_in] <;> omega
  have hb1:(i + 1) * 56 ≤ 140737488355328:=by omega
  have hb2:i ≤ 140737488355327:=by omega
  have hti:(o.take i).length = i:=by rw [List.length_take];omega
  have hts:(o.take (i + 1)).map Typ.cs = (o.take i).map Typ.cs ++ [[.int .i64 o[i].k,.str o[i].name,.int .i64 o[i].n,.sl (o[i].l.map Typ.cs)]]:=by
   rw [List.take_succ_eq_append_getElem hlt',List.map_append,List.map_cons,List.map_nil,Typ.cs_eq]
  have hki:=fun σ=>hkids i hlt hlt' σ
  generalize o[i] = y at *;generalize t.l[i] = x at *
  (refine W.a ?_;simp only [go_sem,seval,h1])
  refine W.yes rfl (W.a ?_);simp only [go_sem,seval];apply W.dregE (List.cons_ne_nil _ _)
  case hc=>
   (apply CanonE.advPO;simp only [go_sem,seval,h1,h0,hx])
   (apply CanonE.call (hUn _);(case hg=>rfl);(case hf=>rfl);(case ha=>first | rfl | simp))
   (apply CanonE.advPO;simp only [go_sem,seval,h1,h0,hx])
   (apply CanonE.call (hki _);(case hg=>rfl);(case hf=>rfl);(case ha=>first | rfl | simp))
   (apply CanonE.advPO;simp only [go_sem,seval,h1,h0,hx,hb1,hb2,hti])
   exact CanonE.nil
  (refine W.a ?_;simp only [go_sem,seval,hw])
  refine .inv ⟨i + 1,hlt,by omega,?_⟩
  simp only [go_sem,seval,hts]
  (refine Lew.cutL (hok) ?_ (by simp) (by simp) ?_ ?_ ?_;exact lee_here;((try simp only [okB,wkB,go_sem,seval]) <;> omega);(simp only [List.length_cons,List.length_nil,Nat.reduceAdd,List.take_succ_cons,List.take_zero,wkB,and_true];(repeat' (refine And.intro ?_ ?_)) <;> (first | exact Blk.wk.rfl _ | exact Blk.wk.gone _ | (refine Blk.wk_cells ?_ rfl;(exact wk_here))));(repeat' (first | exact LowE.base _ | (refine LowE.put ?_ (by first | exact .c _ | ((try simp only [okB,wkB,go_sem,seval]) <;> omega))))))
 obtain rfl:i = t.l.length:=by omega
 have h1:¬ ((t.l.length:Nat):Int) < ((t.l.length:Nat):Int):=by omega
 have hta:o.take t.l.length = o:=by rw [← hol,List.take_length]
 rw [hta]
 (refine W.a ?_;simp only [go_sem,seval,h1])
 refine W.no rfl (W.a ?_)
 simp only [go_sem,seval]
 (refine W.c1w (hW _) ?_;simp only [go_sem,seval])
 (refine W.a ?_;simp only [go_sem,seval])
 (refine W.fs (hok) (by simp only [r228,go_sem,seval];rfl) ?_;simp only [resV];try exact V.wk.rfl _)
 all_goals (all_goals exact wk_here)
theorem ref07_Shift (w0:World) (t:Typ) (a b:Int) (ha:0 ≤ a) (ha':a ≤ 100000) (hb:0 ≤ b) (hb':b ≤ 1152921504606846976) (hnr:nearM 2305843009213693952 t = true) (hn:nodesM t ≤ 400000) (σ:H):DC Tryz.prog w0 139 [t.v,I a,I b] σ (Same (shiftM a b t).v σ):=by
 refine k139.go rfl (fun hok hsz=>?_)
 have hS:=fun σ=>ref07_shift w0 a b ha ha' hb hb' t hnr 0 (by omega) σ
 have e:(((0:Nat):Int)) = 0:=rfl
 rw [e] at hS
 have hz:shiftM a b t = walkM (shiftF a b) 0 t:=rfl
 rw [hz]
 generalize walkM (shiftF a b) 0 t = z at *
 (refine W.a ?_;simp only [go_sem,seval,c139])
 (refine W.c1 (hS _) ?_;simp only [go_sem,seval])
 (refine W.a ?_;simp only [go_sem,seval])
 (refine W.fs (hok) (by simp only [r139,go_sem,seval];rfl) ?_;simp only [resV];try exact V.wk.rfl _)
 all_goals (all_goals exact wk_here)
end
section
attribute [local go_sem] Typ.v Typ.cs_eq tk_mk tname_mk tn_mk tl_mk tysC
theorem ref13_Split (w0:World) (t:Typ) (hv:validM t = true) (hn:nodesM t ≤ 1000000) (σ:H):DC Tryz.prog w0 129 [t.v] σ (Same (.tup [(hd t).v,.c (.sl ((splitM t).2.map Typ.cs))]) σ):=by
 refine k129.go rfl (fun hok hsz=>?_)
 by_cases h6:t.k = 6
 ·obtain ⟨_,_,a,b,l,hl,ha⟩:=valid_app hv h6
  have e:splitM t = (a,b :: l):=by unfold splitM;rw [if_pos h6,hl];rfl
  have eh:hd t = a:=by unfold hd;rw [e]
  rw [e,eh];simp only
  have k6:(t.k == 6) = true:=by simp [h6]
  have hall:=eq_true (rows4 t.l)
  have hx:t.l[0]? = some a:=by rw [hl];rfl
  have hlen:(0:Int) < (t.l.length:Int):=by rw [hl,List.length_cons];omega
  have hlen1:(1:Int) ≤ (t.l.length:Int):=by omega
  have hdr:List.take (t.l.length - 1) (List.drop 1 (List.map Typ.cs t.l)) = (b :: l).map Typ.cs:=by
   rw [hl,List.map_cons,List.drop_succ_cons,List.drop_zero,List.length_cons,Nat.add_sub_cancel,List.take_of_length_le (by simp)]
  generalize (b :: l).map Typ.cs = R at *;clear hl h6 hv e eh
  (refine W.a ?_;simp only [go_sem,seval,c129,k6])
  refine W.yes rfl (W.a ?_);simp only [go_sem,seval];apply W.dregE (List.cons_ne_nil _ _)
  case hc=>
   (apply CanonE.advPO;simp only [go_sem,seval,hall,hlen1,hdr,hlen,hx,nat0])
   exact CanonE.nil
  (refine W.a ?_;simp only [go_sem,seval])
  (refine W.fs (hok) (by simp only [r129,go_sem,seval];rfl) ?_;simp only [resV];try exact V.wk.rfl _)
  all_goals (all_goals exact wk_here)
 ·have e:splitM t = (t,[]):=by unfold splitM;rw [if_neg h6]
  have eh:hd t = t:=by unfold hd;rw [e]
  rw [e,eh];simp only [List.map_nil]
  have k6:(t.k == 6) = false:=by simp [h6]
  clear h6 e eh
  (refine W.a ?_;simp only [go_sem,seval,c129,k6])
  refine W.no rfl (W.a ?_);simp only [go_sem,seval]
  (refine W.fs (hok) (by simp only [r129,go_sem,seval];rfl) ?_;simp only [resV];try exact V.wk.rfl _)
  all_goals (all_goals exact wk_here)
theorem ref13_Args (w0:World) (nm:Str) (σ:H):DC Tryz.prog w0 131 [S nm] σ (Same (I (argsM nm)) σ):=by
 refine k131.go rfl (fun hok hsz=>?_)
 unfold argsM
 by_cases h1:nm = [116,114,117,101]
 ·subst h1
  rw [if_pos (by decide)]
  have q2:(([116,114,117,101]:Str) == [102,97,105,108]) = false:=by decide
  have q3:(([116,114,117,101]:Str) == [33]) = false:=by decide
  have q4:(([116,114,117,101]:Str) == [112,105]) = false:=by decide
  have q5:(([116,114,117,101]:Str) == [115,105,103,109,97]) = false:=by decide
  (refine W.a ?_;simp only [go_sem,seval,c131,q2,q3,q4,q5])
  repeat (first | (refine W.yes rfl ?_;(refine W.a ?_;simp only [go_sem,seval,q2,q3,q4,q5])) | (refine W.no rfl ?_;(refine W.a ?_;simp only [go_sem,seval,q2,q3,q4,q5])))
  (refine W.fs (hok) (by simp only [r131,go_sem,seval];rfl) ?_;simp only [resV];try exact V.wk.rfl _)
 by_cases h2:nm = [102,97,105,108]
 ·subst h2
  rw [if_pos (by decide)]
  have q1:(([102,97,105,108]:Str) == [116,114,117,101]) = false:=by decide
  have q3:(([102,97,105,108]:Str) == [33]) = false:=by decide
  have q4:(([102,97,105,108]:Str) == [112,105]) = false:=by decide
  have q5:(([102,97,105,108]:Str) == [115,105,103,109,97]) = false:=by decide
  (refine W.a ?_;simp only [go_sem,seval,c131,q1,q3,q4,q5])
  repeat (first | (refine W.yes rfl ?_;(refine W.a ?_;simp only [go_sem,seval,q1,q3,q4,q5])) | (refine W.no rfl ?_;(refine W.a ?_;simp only [go_sem,seval,q1,q3,q4,q5])))
  (refine W.fs (hok) (by simp only [r131,go_sem,seval];rfl) ?_;simp only [resV];try exact V.wk.rfl _)
 by_cases h3:nm = [33]
 ·subst h3
  rw [if_pos (by decide)]
  have q1:(([33]:Str) == [116,114,117,101]) = false:=by decide
  have q2:(([33]:Str) == [102,97,105,108]) = false:=by decide
  have q4:(([33]:Str) == [112,105]) = false:=by decide
  have q5:(([33]:Str) == [115,105,103,109,97]) = false:=by decide
  (refine W.a ?_;simp only [go_sem,seval,c131,q1,q2,q4,q5])
  repeat (first | (refine W.yes rfl ?_;(refine W.a ?_;simp only [go_sem,seval,q1,q2,q4,q5])) | (refine W.no rfl ?_;(refine W.a ?_;simp only [go_sem,seval,q1,q2,q4,q5])))
  (refine W.fs (hok) (by simp only [r131,go_sem,seval];rfl) ?_;simp only [resV];try exact V.wk.rfl _)
 by_cases h4:nm = [112,105]
 ·subst h4
  rw [if_neg (by decide),if_pos (by decide)]
  have q1:(([112,105]:Str) == [116,114,117,101]) = false:=by decide
  have q2:(([112,105]:Str) == [102,97,105,108]) = false:=by decide
  have q3:(([112,105]:Str) == [33]) = false:=by decide
  have q5:(([112,105]:Str) == [115,105,103,109,97]) = false:=by decide
  (refine W.a ?_;simp only [go_sem,seval,c131,q1,q2,q3,q5])
  repeat (first | (refine W.yes rfl ?_;(refine W.a ?_;simp only [go_sem,seval,q1,q2,q3,q5])) | (refine W.no rfl ?_;(refine W.a ?_;simp only [go_sem,seval,q1,q2,q3,q5])))
  (refine W.fs (hok) (by simp only [r131,go_sem,seval];rfl) ?_;simp only [resV];try exact V.wk.rfl _)
 by_cases h5:nm = [115,105,103,109,97]
 ·subst h5
  rw [if_neg (by decide),if_pos (by decide)]
  have q1:(([115,105,103,109,97]:Str) == [116,114,117,101]) = false:=by decide
  have q2:(([115,105,103,109,97]:Str) == [102,97,105,108]) = false:=by decide
  have q3:(([115,105,103,109,97]:Str) == [33]) = false:=by decide
  have q4:(([115,105,103,109,97]:Str) == [112,105]) = false:=by decide
  (refine W.a ?_;simp only [go_sem,seval,c131,q1,q2,q3,q4])
  repeat (first | (refine W.yes rfl ?_;(refine W.a ?_;simp only [go_sem,seval,q1,q2,q3,q4])) | (refine W.no rfl ?_;(refine W.a ?_;simp only [go_sem,seval,q1,q2,q3,q4])))
  (refine W.fs (hok) (by simp only [r131,go_sem,seval];rfl) ?_;simp only [resV];try exact V.wk.rfl _)
 rw [if_neg (by simp [h1,h2,h3]),if_neg (by simp [h4,h5])]
 have k1:(nm == [116,114,117,101]) = false:=by simpa using h1
 have k2:(nm == [102,97,105,108]) = false:=by simpa using h2
 have k3:(nm == [33]) = false:=by simpa using h3
 have k4:(nm == [112,105]) = false:=by simpa using h4
 have k5:(nm == [115,105,103,109,97]) = false:=by simpa using h5
 clear h1 h2 h3 h4 h5
 (refine W.a ?_;simp only [go_sem,seval,c131,k1,k2,k3,k4,k5])
 repeat (first | (refine W.no rfl ?_;(refine W.a ?_;simp only [go_sem,seval,k1,k2,k3,k4,k5])))
 (refine W.fs (hok) (by simp only [r131,go_sem,seval];rfl) ?_;simp only [resV];try exact V.wk.rfl _)
theorem ref13_Body (w0:World) (t:Typ) (hv:validM t = true) (hn:nodesM t ≤ 30000) (hr:nearM 2305843009213693952 t = true) (σ:H):DC Tryz.prog w0 132 [t.v] σ (Same (bodyM t).v σ):=by
 refine k132.go rfl (fun hok hsz=>?_)
 by_cases h5:t.k = 5
 ·obtain ⟨_,_,b,hl⟩:=valid_lam hv h5
  have e:bodyM t = b:=by unfold bodyM;rw [if_pos h5,hl];rfl
  have k5:(t.k == 5) = true:=by simp [h5]
  have hx:t.l[0]? = some b:=by rw [hl];rfl
  have hlen:(0:Int) < (t.l.length:Int):=by rw [hl];simp
  rw [e];clear h5 e hl
  (refine W.a ?_;simp only [go_sem,seval,c132,k5])
  refine W.yes rfl (W.a ?_);simp only [go_sem,seval,hx,hlen]
  (refine W.fs (hok) (by simp only [r132,go_sem,seval];rfl) ?_;simp only [resV];try exact V.wk.rfl _)
  all_goals (all_goals exact wk_here)
 ·have k5:(t.k == 5) = false:=by simp [h5]
  have hS:=fun σ=>ref07_Shift w0 t 0 1 (by decide) (by decide) (by decide) (by decide) hr (by omega) σ
  have hsn:=shift_nodes 0 1 t 0
  have e0:walkM (shiftF 0 1) ((0:Nat):Int) t = shiftM 0 1 t:=rfl
  rw [e0] at hsn
  have hkn:=kids_nodes (shiftM 0 1 t)
  have hA:=fun σ=>ref07_Apply w0 (shiftM 0 1 t) [bound0] (by simp only [List.length_cons,List.length_nil];omega) σ
  have e:bodyM t = applyM (shiftM 0 1 t) [bound0]:=by unfold bodyM;rw [if_neg h5]
  have hb:[bound0].map Typ.cs = [[C.int .i64 3,C.str [],C.int .i64 0,C.sl []]]:=by rw [List.map_cons,List.map_nil,Typ.cs_eq];rfl
  rw [e];rw [hb] at hA;generalize applyM (shiftM 0 1 t) [bound0] = z at *;generalize shiftM 0 1 t = y at *;clear h5 e e0
  (refine W.a ?_;simp only [go_sem,seval,c132,k5])
  refine W.no rfl (W.a ?_);simp only [go_sem,seval]
  (refine W.c1 (hS _) ?_;simp only [go_sem,seval])
  (refine W.a ?_;simp only [go_sem,seval])
  (refine W.c1w (hA _) ?_;simp only [go_sem,seval])
  (refine W.a ?_;simp only [go_sem,seval])
  (refine W.fs (hok) (by simp only [r132,go_sem,seval];rfl) ?_;simp only [resV];try exact V.wk.rfl _)
  all_goals (all_goals exact wk_here)
theorem ref13_and (w0:World) (b:Typ) (have_:Bool) (g:Typ) (σ:H):DC Tryz.prog w0 225 [b.v,B have_,g.v] σ (Same (if have_ then andM b g else g).v σ):=by
 refine k225.go rfl (fun hok hsz=>?_)
 cases have_
 ·rw [if_neg (by simp)]
  (refine W.a ?_;simp only [go_sem,seval,c225])
  refine W.yes rfl (W.a ?_);simp only [go_sem,seval]
  (refine W.fs (hok) (by simp only [r225,go_sem,seval];rfl) ?_;simp only [resV];try exact V.wk.rfl _)
  all_goals (all_goals exact wk_here)
 ·rw [if_pos rfl]
  have hA:=fun σ=>ref07_Apply w0 comma [b,g] (by simp [comma,tl_mk]) σ
  rw [andM_apply] at hA;simp only [List.map_cons,List.map_nil,Typ.cs_eq] at hA;generalize andM b g = z at *
  (refine W.a ?_;simp only [go_sem,seval,c225])
  refine W.no rfl (W.a ?_);simp only [go_sem,seval]
  (refine W.c1w (hA _) ?_;simp only [go_sem,seval])
  (refine W.a ?_;simp only [go_sem,seval])
  (refine W.fs (hok) (by simp only [r225,go_sem,seval];rfl) ?_;simp only [resV];try exact V.wk.rfl _)
  all_goals (all_goals exact wk_here)
theorem dist_step {k:Int} {l:List Typ} {i:Nat} (hi:i < l.length):distM k ((l.take i).map Typ.n) (l.drop i) = if l[i].k = 3 ∧ l[i].n < k ∧ ((l.take i).map Typ.n).contains l[i].n = false then distM k ((l.take (i + 1)).map Typ.n) (l.drop (i + 1)) else false:=by
 rw [List.drop_eq_getElem_cons hi,distM_cons,List.take_succ_eq_append_getElem hi,List.map_append]
 rfl
theorem met_iff {l:List Typ} {i:Nat} (hi:i ≤ l.length) (n:Int):((l.take i).map Typ.n).contains n = true ↔ ∃ j,∃ (hj:j < l.length),j < i ∧ l[j].n = n:=by
 rw [List.contains_iff_mem,List.mem_map]
 constructor
 ·rintro ⟨x,hx,rfl⟩
  obtain ⟨j,hj,rfl⟩:=List.mem_iff_getElem.1 hx;rw [List.length_take] at hj;exact ⟨j,by omega,by omega,by rw [List.getElem_take]⟩
 ·rintro ⟨j,hj,hji,rfl⟩
  refine ⟨l[j],List.mem_iff_getElem.2 ⟨j,by rw [List.length_take];omega,by rw [List.getElem_take]⟩,rfl⟩
theorem ref13_Pattern (w0:World) (t:Typ):validM t = true → ∀ (k:Nat),k + nodesM t ≤ 100000 → ∀ (σ:H),DC Tryz.prog w0 224 [t.v,I (k:Int)] σ (Same (B (patM (k:Int) t)) σ):=by
 refine Typ.ind (P:=fun t=>validM t = true → ∀ (k:Nat),k + nodesM t ≤ 100000 → ∀ (σ:H),DC Tryz.prog w0 224 [t.v,I (k:Int)] σ (Same (B (patM (k:Int) t)) σ)) (fun t ih hv k hk σ=>?_) t
 refine k224.go rfl (fun hok hsz=>?_)
 by_cases h5:t.k = 5
 ·obtain ⟨_,_,b,hl⟩:=valid_lam hv h5
  have hb:b ∈ t.l:=by rw [hl];simp
  have hnb:=nodesM_mem hb
  have hP:=fun σ=>ih b hb (valid_kids hv b hb) (k + 1) (by omega) σ
  rw [patM_lam h5 hl]
  have e:((k + 1:Nat):Int) = (k:Int) + 1:=by omega
  rw [e] at hP
  have hw:IntKind.i64.wrap ((k:Int) + 1) = (k:Int) + 1:=by rw [wrap_in] <;> omega
  have k5:(t.k == 5) = true:=by simp [h5]
  have hx:t.l[0]? = some b:=by rw [hl];rfl
  have hlen:(0:Int) < (t.l.length:Int):=by rw [hl];simp
  generalize patM ((k:Int) + 1) b = z at *;clear h5 hl ih
  (refine W.a ?_;simp only [go_sem,seval,c224,k5])
  refine W.yes rfl (W.a ?_);simp only [go_sem,seval,hx,hlen,hw]
  (refine W.c1 (hP _) ?_;simp only [go_sem,seval])
  (refine W.a ?_;simp only [go_sem,seval])
  (refine W.fs (hok) (by simp only [r224,go_sem,seval];rfl) ?_;simp only [resV];try exact V.wk.rfl _)
 have k5:(t.k == 5) = false:=by simp [h5]
 rw [patM_head hv h5]
 have hS:=fun σ=>ref13_Split w0 t hv (by omega) σ
 have hmem:=fun u=>splitM_mem (t:=t) (u:=u) hv
 have hln:(splitM t).2.length ≤ 100000:=by have:=splitM_len hv;omega
 have hP:∀ u ∈ (splitM t).2,∀ σ:H,DC Tryz.prog w0 224 [u.v,I (k:Int)] σ (Same (B (patM (k:Int) u)) σ):=fun u hu σ=>by
  have hm:=hmem u hu
  have hnb:=nodesM_mem hm
  exact ih u hm (valid_kids hv u hm) k (by omega) σ
 clear hmem ih
 generalize (splitM t).2 = l at *
 generalize hd t = h at *
 by_cases g5:h.k = 5
 ·rw [if_pos g5]
  have q5:(h.k == 5) = true:=by simp [g5]
  clear g5 h5
  (refine W.a ?_;simp only [go_sem,seval,c224,k5])
  refine W.no rfl (W.a ?_);simp only [go_sem,seval]
  (refine W.c1 (hS _) ?_;simp only [go_sem,seval])
  (refine W.a ?_;simp only [go_sem,seval,q5])
  refine W.yes rfl (W.a ?_);simp only [go_sem,seval]
  (refine W.fs (hok) (by simp only [r224,go_sem,seval];rfl) ?_;simp only [resV];try exact V.wk.rfl _)
 have q5:(h.k == 5) = false:=by simp [g5]
 rw [if_neg g5]
 by_cases hfx:h.k = 4 ∨ (h.k = 3 ∧ h.n ≥ (k:Int))
 ·rw [if_pos hfx]
  have hq:((h.k == 4) = true ∧ ((1:Nat) == 1) = true ∧ ((1:Nat) == 1) = true) ∨ ((h.k == 4) = false ∧ (h.k == 3) = true ∧ h.n ≥ (k:Int)):=by
   rcases hfx with g4 | ⟨g3,gn⟩
   ·exact .inl ⟨by simp [g4],rfl,rfl⟩
   ·exact .inr ⟨by simp [g3],by simp [g3],gn⟩
  clear g5 h5 hfx;rcases hq with ⟨q4,q3,gn⟩ | ⟨q4,q3,gn⟩
  all_goals (
   (refine W.a ?_;simp only [go_sem,seval,c224,k5])
   refine W.no rfl (W.a ?_);simp only [go_sem,seval]
   (refine W.c1 (hS _) ?_;simp only [go_sem,seval])
   (refine W.a ?_;simp only [go_sem,seval,q5])
   refine W.no rfl (W.a ?_);simp only [go_sem,seval,q4,q3,gn];refine W.yes rfl (W.a ?_);simp only [go_sem,seval];clear hP hS;refine W.loopP (fun i=>i ≤ l.length ∧ distM (k:Int) ((l.take i).map Typ.n) (l.drop i) = distM (k:Int) [] l) (fun i=>⟨(((((base.put (some 1) (I (k:Int))).put (some 2) (.ptr σ.length 0)).put (some 5) (.ptr (σ.length + 1) 0)).put (some 6) (.c (.sl (l.map Typ.cs)))).put (some 7) (I (i:Int))),σ ++ [.cells t.v.cellsV,.cells h.v.cellsV]⟩) (fun i=>l.length - i) 0 ⟨Nat.zero_le _,rfl⟩ ?_ (fun i hi=>?_)
   ·(refine Lew.env ?_;exact lee_here)
   obtain ⟨hi,hd'⟩:=hi;rw [← hd'];clear hd'
   by_cases hlt:i < l.length
   ·have h1:(i:Int) < (l.length:Int):=by omega
    have h0:(0:Int) ≤ (i:Int):=by omega
    have hx:l[i]? = some l[i]:=List.getElem?_eq_getElem hlt
    have hw:IntKind.i64.wrap ((i:Int) + 1) = ((i + 1:Nat):Int):=by rw [wrap_in] <;> omega
    have hstep:=dist_step (k:=(k:Int)) hlt
    have hmet:=met_iff (l:=l) (i:=i) hi l[i].n
    by_cases u3:l[i].k = 3
    ·have p3:(l[i].k == 3) = true:=by simp [u3]
     by_cases un:l[i].n ≥ (k:Int)
     ·rw [if_neg (fun e=>by omega)] at hstep
      rw [hstep];clear hstep hmet u3
      (refine W.a ?_;simp only [go_sem,seval,h1])
      refine W.yes rfl (W.a ?_);simp only [go_sem,seval,h1,h0,hx,bne,p3,un];refine W.yes rfl (W.a ?_);simp only [go_sem,seval]
      (refine W.fs (hok) (by simp only [r224,go_sem,seval];rfl) ?_;simp only [resV];try exact V.wk.rfl _)
     ·(refine W.a ?_;simp only [go_sem,seval,h1])
      refine W.yes rfl (W.a ?_);simp only [go_sem,seval,h1,h0,hx,bne,p3,un];refine W.no rfl (W.a ?_);simp only [go_sem,seval];refine W.loopP (fun j=>j ≤ i ∧ ∀ m (hm:m < l.length),m < j → l[m].n ≠ l[i].n) (fun j=>⟨((((((base.put (some 1) (I (k:Int))).put (some 2) (.ptr σ.length 0)).put (some 5) (.ptr (σ.length + 1) 0)).put (some 6) (.c (.sl (l.map Typ.cs)))).put (some 7) (I (i:Int))).put (some 8) (I (j:Int))),σ ++ [.cells t.v.cellsV,.cells h.v.cellsV]⟩) (fun j=>i - j) 0 ⟨Nat.zero_le _,fun m hm e=>absurd e (Nat.not_lt_zero _)⟩ ?_ (fun j hj=>?_)
      ·(refine Lew.env ?_;exact lee_here)
      obtain ⟨hj,hinv⟩:=hj
      by_cases hji:j < i
      ·have j1:(j:Int) < (i:Int):=by omega
       have j0:(0:Int) ≤ (j:Int):=by omega
       have jl:(j:Int) < (l.length:Int):=by omega
       have hjl:j < l.length:=by omega
       have hy:l[j]? = some l[j]:=List.getElem?_eq_getElem hjl
       have hwj:IntKind.i64.wrap ((j:Int) + 1) = ((j + 1:Nat):Int):=by rw [wrap_in] <;> omega
       by_cases hq:l[j].n = l[i].n
       ·have pq:(l[j].n == l[i].n) = true:=by simp [hq]
        have hc:((l.take i).map Typ.n).contains l[i].n = true:=hmet.2 ⟨j,hjl,hji,hq⟩
        rw [if_neg (fun e=>by rw [hc] at e;exact absurd e.2.2 (by simp))] at hstep
        rw [hstep];clear hstep hmet hinv hq hc
        (refine W.a ?_;simp only [go_sem,seval,j1])
        refine W.yes rfl (W.a ?_);simp only [go_sem,seval]
        (apply W.dregE (List.cons_ne_nil _ _);case hc=>((apply CanonE.advPO;simp only [go_sem,seval,h1,h0,hx,jl,j0,hy,pq]);exact CanonE.nil))
        (refine W.a ?_;simp only [go_sem,seval])
        refine W.yes rfl (W.a ?_);simp only [go_sem,seval]
        (refine W.fs (hok) (by simp only [r224,go_sem,seval];rfl) ?_;simp only [resV];try exact V.wk.rfl _)
       ·have pq:(l[j].n == l[i].n) = false:=by simp [hq]
        (refine W.a ?_;simp only [go_sem,seval,j1])
        refine W.yes rfl (W.a ?_);simp only [go_sem,seval]
        (apply W.dregE (List.cons_ne_nil _ _);case hc=>((apply CanonE.advPO;simp only [go_sem,seval,h1,h0,hx,jl,j0,hy,pq]);exact CanonE.nil))
        (refine W.a ?_;simp only [go_sem,seval])
        refine W.no rfl (W.a ?_);simp only [go_sem,seval,hwj];refine .inv ⟨j + 1,⟨hji,fun m hm hmj=>?_⟩,by omega,?_⟩
        ·rcases Nat.lt_succ_iff_lt_or_eq.1 hmj with h' | h'
         ·exact hinv m hm h'
         ·subst h';exact hq
        ·(refine Lew.env ?_;exact lee_here)
      obtain rfl:j = i:=by omega
      have j1:¬ ((j:Int) < (j:Int)):=by omega
      have hc:((l.take j).map Typ.n).contains l[j].n = false:=by
       rw [← Bool.not_eq_true,hmet];rintro ⟨m,hm,hmj,e⟩;exact hinv m hm hmj e
      rw [if_pos ⟨u3,by omega,hc⟩] at hstep
      rw [hstep]
      (refine W.a ?_;simp only [go_sem,seval,j1])
      refine W.no rfl (W.a ?_);simp only [go_sem,seval,hw];refine .inv ⟨j + 1,⟨hlt,rfl⟩,by omega,?_⟩
      (refine Lew.env ?_;exact lee_here)
    ·have p3:(l[i].k == 3) = false:=by simp [u3]
     rw [if_neg (fun e=>u3 e.1)] at hstep
     rw [hstep];clear hstep hmet u3
     (refine W.a ?_;simp only [go_sem,seval,h1])
     refine W.yes rfl (W.a ?_);simp only [go_sem,seval,h1,h0,hx,bne,p3];refine W.yes rfl (W.a ?_);simp only [go_sem,seval]
     (refine W.fs (hok) (by simp only [r224,go_sem,seval];rfl) ?_;simp only [resV];try exact V.wk.rfl _)
   obtain rfl:i = l.length:=by omega
   have h1:¬ ((l.length:Nat):Int) < ((l.length:Nat):Int):=by omega
   rw [List.drop_length]
   (refine W.a ?_;simp only [go_sem,seval,h1])
   refine W.no rfl (W.a ?_);simp only [go_sem,seval]
   (refine W.fs (hok) (by simp only [r224,go_sem,seval];rfl) ?_;simp only [resV];try exact V.wk.rfl _))
 rw [if_neg hfx]
 have hall:∀ i,i ≤ l.length → (∀ j (hj:j < l.length),j < i → patM (k:Int) l[j] = true) → (∀ hi:i < l.length,patM (k:Int) l[i] = false → l.all (patM (k:Int)) = false) ∧ (i = l.length → l.all (patM (k:Int)) = true):=fun i hi hinv=>
  ⟨fun hlt hf=>by rw [List.all_eq_false];exact ⟨l[i],List.getElem_mem hlt,by rw [hf];simp⟩,fun e=>by rw [List.all_eq_true];intro x hx;obtain ⟨j,hj,rfl⟩:=List.mem_iff_getElem.1 hx;exact hinv j hj (by omega)⟩
 have q4:(h.k == 4) = false:=by simp;omega
 have hq:((h.k == 3) = true ∧ ¬ h.n ≥ (k:Int)) ∨ ((h.k == 3) = false ∧ ((1:Nat) == 1) = true):=by
  by_cases g3:h.k = 3
  ·exact .inl ⟨by simp [g3],fun e=>hfx (.inr ⟨g3,e⟩)⟩
  ·exact .inr ⟨by simp [g3],rfl⟩
 clear g5 h5 hfx
 rcases hq with ⟨q3,gn⟩ | ⟨q3,gn⟩
 all_goals (
  (refine W.a ?_;simp only [go_sem,seval,c224,k5])
  refine W.no rfl (W.a ?_);simp only [go_sem,seval]
  (refine W.c1 (hS _) ?_;simp only [go_sem,seval])
  (refine W.a ?_;simp only [go_sem,seval,q5])
  refine W.no rfl (W.a ?_);simp only [go_sem,seval,q4,q3,gn];refine W.no rfl (W.a ?_);simp only [go_sem,seval];refine W.loopP (fun i=>i ≤ l.length ∧ ∀ j (hj:j < l.length),j < i → patM (k:Int) l[j] = true) (fun i=>⟨(((((base.put (some 1) (I (k:Int))).put (some 2) (.ptr σ.length 0)).put (some 5) (.ptr (σ.length + 1) 0)).put (some 6) (.c (.sl (l.map Typ.cs)))).put (some 9) (I (i:Int))),σ ++ [.cells t.v.cellsV,.cells h.v.cellsV]⟩) (fun i=>l.length - i) 0 ⟨Nat.zero_le _,fun j hj e=>absurd e (Nat.not_lt_zero _)⟩ ?_ (fun i hi=>?_)
  ·(refine Lew.env ?_;exact lee_here)
  obtain ⟨hi,hinv⟩:=hi;obtain ⟨r1,r2⟩:=hall i hi hinv
  by_cases hlt:i < l.length
  ·have h1:(i:Int) < (l.length:Int):=by omega
   have h0:(0:Int) ≤ (i:Int):=by omega
   have hx:l[i]? = some l[i]:=List.getElem?_eq_getElem hlt
   have hw:IntKind.i64.wrap ((i:Int) + 1) = ((i + 1:Nat):Int):=by rw [wrap_in] <;> omega
   have hPi:=fun σ=>hP l[i] (List.getElem_mem hlt) σ
   cases hpt:patM (k:Int) l[i]
   ·rw [r1 hlt hpt]
    rw [hpt] at hPi;clear r1 r2 hall hinv hP
    (refine W.a ?_;simp only [go_sem,seval,h1])
    refine W.yes rfl (W.a ?_);simp only [go_sem,seval,h1,h0,hx]
    (refine W.c1 (hPi _) ?_;simp only [go_sem,seval])
    (refine W.a ?_;simp only [go_sem,seval])
    refine W.yes rfl (W.a ?_);simp only [go_sem,seval]
    (refine W.fs (hok) (by simp only [r224,go_sem,seval];rfl) ?_;simp only [resV];try exact V.wk.rfl _)
   ·rw [hpt] at hPi
    (refine W.a ?_;simp only [go_sem,seval,h1])
    refine W.yes rfl (W.a ?_);simp only [go_sem,seval,h1,h0,hx]
    (refine W.c1 (hPi _) ?_;simp only [go_sem,seval])
    (refine W.a ?_;simp only [go_sem,seval])
    refine W.no rfl (W.a ?_);simp only [go_sem,seval,hw];refine .inv ⟨i + 1,⟨hlt,fun m hm hmj=>?_⟩,by omega,?_⟩
    ·rcases Nat.lt_succ_iff_lt_or_eq.1 hmj with h' | h'
     ·exact hinv m hm h'
     ·subst h';exact hpt
    ·(refine Lew.env ?_;exact lee_here)
  obtain rfl:i = l.length:=by omega
  have h1:¬ ((l.length:Nat):Int) < ((l.length:Nat):Int):=by omega
  rw [r2 rfl];clear r1 r2 hall hinv hP
  (refine W.a ?_;simp only [go_sem,seval,h1])
  refine W.no rfl (W.a ?_);simp only [go_sem,seval]
  (refine W.fs (hok) (by simp only [r224,go_sem,seval];rfl) ?_;simp only [resV];try exact V.wk.rfl _))
theorem ref13_Abstract (w0:World) (n:Int) (hn0:0 ≤ n) (hn1:n ≤ 4096) (t:Typ):validM t = true → nearM 1099511628776 t = true → ∀ (k:Nat),k + nodesM t ≤ 1000 → ∀ (σ:H),DC Tryz.prog w0 133 [t.v,I n,I (k:Int)] σ (Same (absM n (k:Int) t).v σ):=by
 refine Typ.ind (P:=fun t=>validM t = true → nearM 1099511628776 t = true → ∀ (k:Nat),k + nodesM t ≤ 1000 → ∀ (σ:H),DC Tryz.prog w0 133 [t.v,I n,I (k:Int)] σ (Same (absM n (k:Int) t).v σ)) (fun t ih hv hnr k hk σ=>?_) t
 refine k133.go rfl (fun hok hsz=>?_)
 have hp:=nodesM_pos t
 by_cases hvar:t.k = 4 ∧ t.n < n
 ·obtain ⟨h4,hlt⟩:=hvar
  have k4:(t.k == 4) = true:=by simp [h4]
  have hnn:=near_node hnr (by omega)
  have e:absM n (k:Int) t = .mk 3 [] ((k:Int) + n - 1 - t.n) []:=by rw [absM_eq,if_pos h4,if_pos hlt]
  rw [e]
  have hw1:IntKind.i64.wrap ((k:Int) + n) = (k:Int) + n:=by rw [wrap_in] <;> omega
  have hw2:IntKind.i64.wrap ((k:Int) + n - 1) = (k:Int) + n - 1:=by rw [wrap_in] <;> omega
  have hw3:IntKind.i64.wrap ((k:Int) + n - 1 - t.n) = (k:Int) + n - 1 - t.n:=by rw [wrap_in] <;> omega
  clear h4 ih e
  (refine W.a ?_;simp only [go_sem,seval,c133,k4,hlt])
  refine W.yes rfl (W.a ?_);simp only [go_sem,seval,hw1,hw2,hw3]
  (refine W.fs (hok) (by simp only [r133,go_sem,seval];rfl) ?_;simp only [resV];try exact V.wk.rfl _)
  all_goals (all_goals exact wk_here)
 have hT1:∃ b1:Bool,(t.k == 4) = b1 ∧ (b1 = true → ¬ t.n < n):=by
  by_cases h4:t.k = 4
  ·exact ⟨true,by simp [h4],fun _ e=>hvar ⟨h4,e⟩⟩
  ·exact ⟨false,by simp [h4],fun e=>by cases e⟩
 by_cases hbd:t.k = 3 ∧ t.n ≥ (k:Int)
 ·obtain ⟨h3,hge⟩:=hbd
  have k3:(t.k == 3) = true:=by simp [h3]
  have k4:(t.k == 4) = false:=by simp [h3]
  have hnn:=near_node hnr (by omega)
  have hl:=valid_leaf hv (by omega) (by omega)
  have hnm:t.name = []:=by have hv:=valid_node hv;unfold nodeM at hv;simp [h3] at hv;exact hv.1.2
  have e:absM n (k:Int) t = .mk 3 [] (t.n + n) []:=by rw [absM_eq,if_neg (by omega),if_pos h3,if_pos hge,h3,hnm,hl]
  rw [e]
  have hw1:IntKind.i64.wrap (t.n + n) = t.n + n:=by rw [wrap_in] <;> omega
  clear h3 ih e hT1 hvar
  (refine W.a ?_;simp only [go_sem,seval,c133,k4])
  refine W.no rfl (W.a ?_);simp only [go_sem,seval,k3,hge];refine W.yes rfl (W.a ?_);simp only [go_sem,seval,hw1]
  (refine W.fs (hok) (by simp only [r133,go_sem,seval];rfl) ?_;simp only [resV];try exact V.wk.rfl _)
  all_goals (all_goals exact wk_here)
 obtain ⟨B,hB5,hBk⟩:∃ B:Nat,((t.k == 5) = true ∧ IntKind.i64.wrap ((k:Int) + 1) = (B:Int) ∨ (t.k == 5) = false ∧ (k:Int) = (B:Int)) ∧ (B = if t.k = 5 then k + 1 else k):=by
  by_cases h5:t.k = 5
  ·exact ⟨k + 1,.inl ⟨by simp [h5],by rw [wrap_in] <;> omega⟩,by rw [if_pos h5]⟩
  ·exact ⟨k,.inr ⟨by simp [h5],rfl⟩,by rw [if_neg h5]⟩
 have hBl:B ≤ k + 1:=by rw [hBk];split <;> omega
 have hz:absM n (k:Int) t = .mk t.k t.name t.n (t.l.map (absM n (B:Int))):=by
  rw [absM_eq]
  by_cases h4:t.k = 4
  ·rw [if_pos h4,if_neg (fun e=>hvar ⟨h4,e⟩),valid_leaf hv (by omega) (by omega)]
   have:=valid_leaf hv (by omega) (by omega)
   cases t;simp [Typ.k,Typ.name,Typ.n,Typ.l] at this ⊢;exact this
  rw [if_neg h4]
  by_cases h3:t.k = 3
  ·rw [if_pos h3,if_neg (fun e=>hbd ⟨h3,e⟩),valid_leaf hv (by omega) (by omega)]
   have:=valid_leaf hv (by omega) (by omega)
   cases t;simp [Typ.k,Typ.name,Typ.n,Typ.l] at this ⊢;exact this
  rw [if_neg h3]
  by_cases h5:t.k = 5
  ·rw [if_pos h5,hBk,if_pos h5];rfl
  rw [if_neg h5]
  by_cases h6:t.k = 6
  ·rw [if_pos h6,hBk,if_neg h5]
  rw [if_neg h6,valid_leaf hv h5 h6]
  have:=valid_leaf hv h5 h6
  cases t;simp [Typ.k,Typ.name,Typ.n,Typ.l] at this ⊢;exact this
 rw [hz]
 obtain ⟨o,ho⟩:∃ o,o = t.l.map (absM n (B:Int)):=⟨_,rfl⟩
 have hol:o.length = t.l.length:=by rw [ho,List.length_map]
 have hlen:=kids_nodes t
 have hkids:∀ i (hi:i < t.l.length) (hi':i < o.length) σ,DC Tryz.prog w0 133 [t.l[i].v,I n,I (B:Int)] σ (Same o[i].v σ):=fun i hi hi' σ=>by
  have hm:=List.getElem_mem hi
  have:=nodesM_mem hm
  have e:o[i] = absM n (B:Int) t.l[i]:=by simp [ho]
  rw [e];exact ih _ hm (valid_kids hv _ hm) (near_kids hnr _ hm) B (by omega) σ
 rw [← ho]
 have hT2:∃ b2:Bool,(t.k == 3) = b2 ∧ (b2 = true → ¬ t.n ≥ (k:Int)):=by
  by_cases h3:t.k = 3
  ·exact ⟨true,by simp [h3],fun _ e=>hbd ⟨h3,e⟩⟩
  ·exact ⟨false,by simp [h3],fun e=>by cases e⟩
 obtain ⟨c1,k4,hlt⟩:=hT1
 obtain ⟨c2,k3,hge⟩:=hT2
 clear ho hBk hz ih hvar hbd
 have hq:((t.k == 4) = false ∧ ((1:Nat) == 1) = true ∧ (t.k == 3) = false ∧ ((1:Nat) == 1) = true) ∨ ((t.k == 4) = false ∧ ((1:Nat) == 1) = true ∧ (t.k == 3) = true ∧ ¬ t.n ≥ (k:Int)) ∨ ((t.k == 4) = true ∧ (¬ t.n < n) ∧ (t.k == 3) = false ∧ ((1:Nat) == 1) = true):=by
  cases c1
  ·cases c2
   ·exact .inl ⟨k4,rfl,k3,rfl⟩
   ·exact .inr (.inl ⟨k4,rfl,k3,hge rfl⟩)
  ·have h4:t.k = 4:=by simpa using k4
   exact .inr (.inr ⟨k4,hlt rfl,by simp [h4],rfl⟩)
 clear k4 k3 hlt hge
 rcases hq with ⟨k4,hlt,k3,hge⟩ | ⟨k4,hlt,k3,hge⟩ | ⟨k4,hlt,k3,hge⟩
 all_goals (
  (refine W.a ?_;simp only [go_sem,seval,c133,k4,hlt])
  refine W.no rfl (W.a ?_);simp only [go_sem,seval,k3,hge];refine W.no rfl (W.a ?_);simp only [go_sem,seval];refine W.ownCell (σ.length + 2) 3 30 4 (cs:=[I t.k,S t.name,I t.n,.csl []]) (tg:=none) ?_ rfl ?_
  ·simp only [hget,List.getElem?_cons_succ,List.getElem?_cons_zero]
   try rfl
  simp only [go_sem,seval];refine W.loopP (fun i=>i ≤ t.l.length) (fun i=>⟨((((((base.put (some 1) (I n)).put (some 2) (I (k:Int))).put (some 3) (.ptr σ.length 0)).put (some 6) (.ptr (σ.length + 1) 0)).put (some 7) (.ptr (σ.length + 2) 0)).put (some 8) (I (i:Int))),σ ++ [.cells t.v.cellsV,.cells [I 0,S [],I 0,.csl []],.cells [I t.k,S t.name,I t.n,.osl (σ.length + 3) ((o.take i).map Typ.cs)],.spare 30 4 i]⟩) (fun i=>t.l.length - i) 0 (Nat.zero_le _) ?_ (fun i hi=>?_)
  ·simp only [List.take_zero,List.map_nil]
   simp only [go_sem,seval,natCast0]
   (refine Lew.env ?_;exact lee_here)
  by_cases hlt2:i < t.l.length
  ·have hlt':i < o.length:=by omega
   have h1:(i:Int) < (t.l.length:Int):=by omega
   have h0:(0:Int) ≤ (i:Int):=by omega
   have hx:t.l[i]? = some t.l[i]:=List.getElem?_eq_getElem hlt2
   have hw:IntKind.i64.wrap ((i:Int) + 1) = ((i + 1:Nat):Int):=by rw [wrap_in] <;> omega
   have hb1:(i + 1) * 56 ≤ 140737488355328:=by omega
   have hb2:i + 1 ≤ 140737488355328:=by omega
   have hb3:i ≤ 140737488355327:=by omega
   have hti:((o.take i).map Typ.cs).length = i:=by rw [List.length_map,List.length_take];omega
   have hts:(o.take (i + 1)).map Typ.cs = (o.take i).map Typ.cs ++ [[.int .i64 o[i].k,.str o[i].name,.int .i64 o[i].n,.sl (o[i].l.map Typ.cs)]]:=by
    rw [List.take_succ_eq_append_getElem hlt',List.map_append,List.map_cons,List.map_nil,Typ.cs_eq]
   have hki:=fun σ=>hkids i hlt2 hlt' σ
   generalize o[i] = y at *;generalize t.l[i] = x at *;generalize (o.take i).map Typ.cs = mr at *;rcases hB5 with ⟨k5,hB⟩ | ⟨k5,hB⟩
   ·(refine W.a ?_;simp only [go_sem,seval,h1])
    refine W.yes rfl (W.a ?_);simp only [go_sem,seval,k5];refine W.yes rfl (W.a ?_);simp only [go_sem,seval,hB];apply W.dregE (List.cons_ne_nil _ _)
    case hc=>
     (apply CanonE.advPO;simp only [go_sem,seval,h1,h0,hx])
     (apply CanonE.call (hki _);(case hg=>rfl);(case hf=>rfl);(case ha=>first | rfl | simp))
     (apply CanonE.advPO;simp only [go_sem,seval,hb1,hb2,hb3,hti])
     exact CanonE.nil
    (refine W.a ?_;simp only [go_sem,seval,hw])
    refine .inv ⟨i + 1,hlt2,by omega,?_⟩
    rw [hts]
    (refine Lew.cutL (hok) ?_ (by simp) (by simp) ?_ ?_ ?_;exact lee_here;((try simp only [okB,wkB,go_sem,seval]) <;> omega);(simp only [List.length_cons,List.length_nil,Nat.reduceAdd,List.take_succ_cons,List.take_zero,wkB,and_true];(repeat' (refine And.intro ?_ ?_)) <;> (first | exact Blk.wk.rfl _ | exact Blk.wk.gone _ | (refine Blk.wk_cells ?_ rfl;(exact wk_here))));(repeat' (first | exact LowE.base _ | (refine LowE.put ?_ (by first | exact .c _ | ((try simp only [okB,wkB,go_sem,seval]) <;> omega))))))
   ·rw [← hB] at hki
    (refine W.a ?_;simp only [go_sem,seval,h1])
    refine W.yes rfl (W.a ?_);simp only [go_sem,seval,k5];refine W.no rfl (W.a ?_);simp only [go_sem,seval];apply W.dregE (List.cons_ne_nil _ _)
    case hc=>
     (apply CanonE.advPO;simp only [go_sem,seval,h1,h0,hx])
     (apply CanonE.call (hki _);(case hg=>rfl);(case hf=>rfl);(case ha=>first | rfl | simp))
     (apply CanonE.advPO;simp only [go_sem,seval,hb1,hb2,hb3,hti])
     exact CanonE.nil
    (refine W.a ?_;simp only [go_sem,seval,hw])
    refine .inv ⟨i + 1,hlt2,by omega,?_⟩
    rw [hts]
    (refine Lew.cutL (hok) ?_ (by simp) (by simp) ?_ ?_ ?_;exact lee_here;((try simp only [okB,wkB,go_sem,seval]) <;> omega);(simp only [List.length_cons,List.length_nil,Nat.reduceAdd,List.take_succ_cons,List.take_zero,wkB,and_true];(repeat' (refine And.intro ?_ ?_)) <;> (first | exact Blk.wk.rfl _ | exact Blk.wk.gone _ | (refine Blk.wk_cells ?_ rfl;(exact wk_here))));(repeat' (first | exact LowE.base _ | (refine LowE.put ?_ (by first | exact .c _ | ((try simp only [okB,wkB,go_sem,seval]) <;> omega))))))
  obtain rfl:i = t.l.length:=by omega
  have h1:¬ ((t.l.length:Nat):Int) < ((t.l.length:Nat):Int):=by omega
  have hta:o.take t.l.length = o:=by rw [← hol,List.take_length]
  rw [hta]
  (refine W.a ?_;simp only [go_sem,seval,h1])
  refine W.no rfl (W.a ?_);simp only [go_sem,seval]
  (refine W.fs (hok) (by simp only [r133,go_sem,seval];rfl) ?_;simp only [resV];try exact V.wk.rfl _)
  all_goals (all_goals exact wk_here))
end
section
def rcV (m:Nat) (R:List Cla × Int):V:=if R.2 ≠ 0 then .tup [.csl [],I R.2] else if R.1.length ≤ 1 then .tup [.csl (R.1.map Cla.cs),I 0] else .tup [.osl m (R.1.map Cla.cs),I 0]
def rcH (σ:H) (R:List Cla × Int):H:=if R.2 = 0 ∧ 1 < R.1.length then σ ++ [.spare 88 9 R.1.length] else σ
def RcOk (w0:World) (args:List V) (R:List Cla × Int):Prop:=∀ σ,DC Tryz.prog w0 128 args σ (Same (rcV σ.length R) (rcH σ R))
def erR (R:List Cla × Int):List Cla × Int:=if R.2 = 0 then R else ([],R.2)
section
variable {w0:World} {args:List V} {R:List Cla × Int}
theorem rc_err (h:R.2 ≠ 0) (m:Nat) (σ:H):rcV m R = .tup [.csl [],I R.2] ∧ rcH σ R = σ:=⟨if_pos h,if_neg (fun e=>h e.1)⟩
theorem rc_one (h:R.2 = 0) (hl:R.1.length ≤ 1) (m:Nat) (σ:H):rcV m R = .tup [.csl (R.1.map Cla.cs),I 0] ∧ rcH σ R = σ:=⟨by unfold rcV;rw [if_neg (fun e=>e h),if_pos hl],if_neg (fun e=>by omega)⟩
theorem rc_many (h:R.2 = 0) (hl:1 < R.1.length) (m:Nat) (σ:H):rcV m R = .tup [.osl m (R.1.map Cla.cs),I 0] ∧ rcH σ R = σ ++ [.spare 88 9 R.1.length]:=⟨by unfold rcV;rw [if_neg (fun e=>e h),if_neg (by omega)],if_pos ⟨h,hl⟩⟩
theorem RcOk.err (H:RcOk w0 args R) (h:R.2 ≠ 0) (σ:Lamb.H):DC Tryz.prog w0 128 args σ (Same (.tup [.csl [],I R.2]) σ):=by
 have:=H σ;rwa [(rc_err h _ σ).1,(rc_err h 0 σ).2] at this
theorem RcOk.one (H:RcOk w0 args R) (h:R.2 = 0) (hl:R.1.length ≤ 1) (σ:Lamb.H):DC Tryz.prog w0 128 args σ (Same (.tup [.csl (R.1.map Cla.cs),I 0]) σ):=by
 have:=H σ;rwa [(rc_one h hl _ σ).1,(rc_one h hl 0 σ).2] at this
theorem RcOk.many (H:RcOk w0 args R) (h:R.2 = 0) (hl:1 < R.1.length) (σ:Lamb.H):DC Tryz.prog w0 128 args σ (Same (.tup [.osl σ.length (R.1.map Cla.cs),I 0]) (σ ++ [.spare 88 9 R.1.length])):=by
 have:=H σ;rwa [(rc_many h hl _ σ).1,(rc_many h hl 0 σ).2] at this
theorem RcOk.of_err (h:R.2 ≠ 0) (H:∀ σ,DC Tryz.prog w0 128 args σ (Same (.tup [.csl [],I R.2]) σ)):RcOk w0 args R:=fun σ=>by
 rw [(rc_err h _ σ).1,(rc_err h 0 σ).2];exact H σ
theorem RcOk.of_one (h:R.2 = 0) (hl:R.1.length ≤ 1) (H:∀ σ,DC Tryz.prog w0 128 args σ (Same (.tup [.csl (R.1.map Cla.cs),I 0]) σ)):RcOk w0 args R:=fun σ=>by
 rw [(rc_one h hl _ σ).1,(rc_one h hl 0 σ).2];exact H σ
theorem RcOk.of_many (h:R.2 = 0) (hl:1 < R.1.length) (H:∀ σ,DC Tryz.prog w0 128 args σ (RoomP σ 88 9 R.1.length (R.1.map Cla.cs) 0)):RcOk w0 args R:=fun σ=>by
 rw [(rc_many h hl _ σ).1,(rc_many h hl 0 σ).2];exact (H σ).room
def RcG (x:Nat → V) (X:Lamb.H) (c:Int) (σ:Lamb.H) (v:V) (τ:Lamb.H):Prop:=∃ L,v = .tup [x (σ.length + L.length),I c] ∧ τ = σ ++ (L ++ X)
theorem RcOk.gen (H:RcOk w0 args R):∃ (x:Nat → V) (X:Lamb.H),(∀ σ,DC Tryz.prog w0 128 args σ (Same (.tup [x σ.length,I R.2]) (σ ++ X))) ∧ ∀ args',(∀ σ,DC Tryz.prog w0 128 args' σ (RcG x X R.2 σ)) → RcOk w0 args' R:=by
 have back:∀ (d:V) (args':List V),(∀ n,V.low n d) → (∀ σ,DC Tryz.prog w0 128 args' σ (RcG (fun _=>d) [] R.2 σ)) → ∀ σ,DC Tryz.prog w0 128 args' σ (Same (.tup [d,I R.2]) σ):=fun d args' hd h σ=>by
  refine ⟨(h σ).enters,fun κ w vs hrep hfit=>((h σ).run κ w vs hrep hfit).mono ?_⟩
  rintro e w' ⟨v,d0,σ0,κ',rfl,⟨L,rfl,rfl⟩,h3,h4,h5⟩
  have h6:=h4.cut σ.length (by simp) (by rw [List.take_left];exact hrep.ok)
  rw [List.take_left] at h6;exact ⟨v,_,σ,κ'.cut σ.length,rfl,⟨rfl,rfl⟩,K.cut_le h3 (by rw [hrep.n];exact Nat.le_refl _),h6,h5.cut (.tup fun y hy=>by
   simp only [List.mem_cons,List.not_mem_nil,or_false] at hy;rcases hy with rfl | rfl
   ·exact hd _
   ·exact .c _)⟩
 by_cases h:R.2 = 0
 ·by_cases hl:R.1.length ≤ 1
  ·refine ⟨fun _=>.csl (R.1.map Cla.cs),[],fun σ=>by rw [List.append_nil,h];exact H.one h hl σ,fun args' hA=>.of_one h hl fun σ=>?_⟩
   have:=back _ args' (fun n=>.csl _) hA σ
   rwa [h] at this
  ·refine ⟨fun m=>.osl m (R.1.map Cla.cs),[.spare 88 9 R.1.length],fun σ=>by rw [h];exact H.many h (by omega) σ,fun args' hA=>.of_many h (by omega) fun σ=>?_⟩
   have:=hA σ
   rw [h] at this;refine ⟨this.enters,fun κ w vs hrep hfit=>(this.run κ w vs hrep hfit).mono ?_⟩
   rintro e w' ⟨v,d0,σ0,κ',rfl,⟨L,rfl,rfl⟩,h3⟩;exact ⟨v,_,_,κ',rfl,⟨L,[],rfl,rfl⟩,h3⟩
 ·exact ⟨fun _=>.csl [],[],fun σ=>by rw [List.append_nil];exact H.err h σ,fun args' hA=>.of_err h fun σ=>back _ args' (fun n=>.csl _) hA σ⟩
theorem RcOk.any (H:RcOk w0 args R) (σ:Lamb.H):DC Tryz.prog w0 128 args σ (Same (.tup [.c (.sl ((erR R).1.map Cla.cs)),I R.2]) σ):=by
 by_cases h:R.2 = 0
 ·have e:erR R = R:=if_pos h
  rw [e]
  by_cases hl:R.1.length ≤ 1
  ·have:=H.one h hl σ
   rw [← List.append_nil σ] at this
   have e2:∀ τ:Lamb.H,DC Tryz.prog w0 128 args (σ ++ []) (Same (.tup [.csl (R.1.map Cla.cs),I 0]) (σ ++ [])) → DC Tryz.prog w0 128 args σ (Same (.tup [.csl (R.1.map Cla.cs),I 0]) (σ ++ [])):=fun τ h=>by rwa [List.append_nil] at h ⊢
   rw [h];exact (e2 [] this).less wk_here (by first | (simp only [go_sem];done) | (simp only [go_sem];simp))
  ·rw [h]
   exact (H.many h (by omega) σ).less wk_here (by first | (simp only [go_sem];done) | (simp only [go_sem];simp))
 ·have e:erR R = ([],R.2):=if_neg h
  rw [e]
  have:=H.err h σ
  rw [← List.append_nil σ] at this
  have e2:DC Tryz.prog w0 128 args σ (Same (.tup [.csl [],I R.2]) (σ ++ [])):=by rwa [List.append_nil] at this ⊢
  exact e2.less wk_here (by first | (simp only [go_sem];done) | (simp only [go_sem];simp))
end
theorem ands_nodes {l:List Typ} (h:∀ u ∈ l,nodesM u ≤ 300):nodesM (andsM l) ≤ 302 * l.length + 1:=by
 cases l with
 | nil=>decide
 | cons g l=>
   have key:∀ (l:List Typ) (g:Typ),(∀ u ∈ l,nodesM u ≤ 300) → nodesM (l.foldl andM g) ≤ nodesM g + 302 * l.length:=by
    intro l
    induction l with
    | nil=>intro g _;exact Nat.le_refl _
    | cons x l ih=>
      intro g hl
      have h1:=ih (andM g x) (fun u hu=>hl u (List.mem_cons_of_mem _ hu))
      have h2:=hl x (List.mem_cons_self ..)
      have h3:nodesM (andM g x) = nodesM g + nodesM x + 2:=by unfold andM;rw [nodesM_mk,nodesMs,nodesMs,nodesMs,nodesMs];simp [comma,nodesM,nodesMs];omega
      rw [List.foldl_cons,List.length_cons];omega
   have h1:=key l g (fun u hu=>h u (List.mem_cons_of_mem _ hu))
   have h2:=h g (List.mem_cons_self ..)
   show nodesM (l.foldl andM g) ≤ _
   rw [List.length_cons];omega
theorem ands_near {m:Int} (hm:0 ≤ m) {l:List Typ} (h:∀ u ∈ l,nearM m u = true):nearM m (andsM l) = true:=by
 cases l with
 | nil=>exact near_of (.inr (by simp [andsM,tn_mk];omega)) (fun u hu=>by simp [andsM,tl_mk] at hu)
 | cons g l=>
   have key:∀ (l:List Typ) (g:Typ),nearM m g = true → (∀ u ∈ l,nearM m u = true) → nearM m (l.foldl andM g) = true:=by
    intro l
    induction l with
    | nil=>intro g hg _;exact hg
    | cons x l ih=>
      intro g hg hl;refine ih (andM g x) ?_ (fun u hu=>hl u (List.mem_cons_of_mem _ hu))
      refine near_of (.inr (by simp [andM,tn_mk];omega)) (fun u hu=>?_)
      simp only [andM,tl_mk,List.mem_cons,List.not_mem_nil,or_false] at hu;rcases hu with rfl | rfl | rfl
      ·exact near_of (.inr (by simp [comma,tn_mk];omega)) (fun u hu=>by simp [comma,tl_mk] at hu)
      ·exact hg
      ·exact hl _ (List.mem_cons_self ..)
   exact key l g (h g (List.mem_cons_self ..)) (fun u hu=>h u (List.mem_cons_of_mem _ hu))
def hvB (gs:List Typ):Bool:=!gs.isEmpty
theorem hv_snoc (gs:List Typ) (g:Typ):hvB (gs ++ [g]) = true:=by unfold hvB;cases gs <;> rfl
theorem hv_map (gs:List Typ) (f:Typ → Typ):hvB (gs.map f) = hvB gs:=by unfold hvB;cases gs <;> rfl
theorem and_snoc (gs:List Typ) (g:Typ):(if hvB gs then andM (andsM gs) g else g) = andsM (gs ++ [g]):=by
 rw [andsM_snoc];cases gs <;> rfl
theorem body_hv (gs:List Typ):bodyOf gs = if hvB gs then andsM gs else trueT:=by unfold bodyOf hvB;cases gs <;> rfl
attribute [local go_sem] Typ.v Typ.cs_eq tk_mk tname_mk tn_mk tl_mk tysC Cla.cs
theorem refc_flex (w0:World) (any:Bool) (v:Int) (gs:List Typ) (t:Typ) {h:Typ} {l:List Typ} (hS:∀ σ,DC Tryz.prog w0 129 [t.v] σ (Same (.tup [h.v,.c (.sl (l.map Typ.cs))]) σ)) (hk:h.k = 4 ∨ h.k = 3) (gv:V) (hb:Bool) (hgv:gv = (andsM gs).v) (σ:H):DC Tryz.prog w0 128 [t.v,I v,gv,B hb,B any] σ (Same (.tup [.csl [],I 131]) σ):=by
 subst hgv
 generalize andsM gs = b at *
 refine k128.go rfl (fun hok hsz=>?_)
 by_cases h4:h.k = 4
 ·have k4:(h.k == 4) = true:=by simp [h4]
  clear h4 hk
  ((try refine W.a ?_);simp only [go_sem,seval,c128])
  (refine W.c1 (hS _) ?_;simp only [go_sem,seval])
  ((try refine W.a ?_);simp only [go_sem,seval,k4])
  refine W.yes rfl (W.a ?_);simp only [go_sem,seval]
  (refine W.fs (hok) (by simp only [r128,go_sem,seval];rfl) ?_;simp only [resV];try exact V.wk.rfl _)
 ·have k4:(h.k == 4) = false:=by simp [h4]
  have k3:(h.k == 3) = true:=by simp;omega
  clear h4 hk
  ((try refine W.a ?_);simp only [go_sem,seval,c128])
  (refine W.c1 (hS _) ?_;simp only [go_sem,seval])
  ((try refine W.a ?_);simp only [go_sem,seval,k4,k3])
  refine W.yes rfl (W.a ?_);simp only [go_sem,seval]
  (refine W.fs (hok) (by simp only [r128,go_sem,seval];rfl) ?_;simp only [resV];try exact V.wk.rfl _)
theorem refc_shape (w0:World) (any:Bool) (v:Int) (gs:List Typ) (t:Typ) {h:Typ} {l:List Typ} (hS:∀ σ,DC Tryz.prog w0 129 [t.v] σ (Same (.tup [h.v,.c (.sl (l.map Typ.cs))]) σ)) (hk:h.k ≠ 4 ∧ h.k ≠ 3 ∧ h.k ≠ 0) (gv:V) (hb:Bool) (hgv:gv = (andsM gs).v) (σ:H):DC Tryz.prog w0 128 [t.v,I v,gv,B hb,B any] σ (Same (.tup [.csl [],I 130]) σ):=by
 subst hgv
 generalize andsM gs = b at *
 refine k128.go rfl (fun hok hsz=>?_)
 have k4:(h.k == 4) = false:=by simp [hk.1]
 have k3:(h.k == 3) = false:=by simp [hk.2.1]
 have k0:(h.k == 0) = false:=by simp [hk.2.2]
 clear hk
 ((try refine W.a ?_);simp only [go_sem,seval,c128])
 (refine W.c1 (hS _) ?_;simp only [go_sem,seval])
 ((try refine W.a ?_);simp only [go_sem,seval,k4,k3])
 refine W.no rfl (W.a ?_)
 simp only [go_sem,seval,bne,k0]
 refine W.yes rfl (W.a ?_)
 simp only [go_sem,seval]
 (refine W.fs (hok) (by simp only [r128,go_sem,seval];rfl) ?_;simp only [resV];try exact V.wk.rfl _)
theorem refc_leaf (w0:World) (any:Bool) (v:Int) (gs:List Typ) (t:Typ) {h:Typ} {l:List Typ} (hS:∀ σ,DC Tryz.prog w0 129 [t.v] σ (Same (.tup [h.v,.c (.sl (l.map Typ.cs))]) σ)) (h0:h.k = 0) (hlg:logicalB h.name = false) (hln:l.length ≤ 100000) (hP:∀ u ∈ l,∀ σ:H,DC Tryz.prog w0 224 [u.v,I 0] σ (Same (B (patM 0 u)) σ)) (σ:H) :
  (any = false ∧ l.all (patM 0) = false → DC Tryz.prog w0 128 [t.v,I v,(andsM gs).v,B (hvB gs),B any] σ (Same (.tup [.csl [],I 132]) σ)) ∧
  (¬ (any = false ∧ l.all (patM 0) = false) → DC Tryz.prog w0 128 [t.v,I v,(andsM gs).v,B (hvB gs),B any] σ (Same (.tup [.csl [(Cla.mk v t (bodyOf gs)).cs],I 0]) σ)):=by
 have k4:(h.k == 4) = false:=by simp [h0]
 have k3:(h.k == 3) = false:=by simp [h0]
 have k0:(h.k == 0) = true:=by simp [h0]
 have hL:=fun σ=>ref11_Logical w0 h.name σ
 rw [hlg] at hL
 rw [body_hv]
 generalize andsM gs = b at *
 generalize hvB gs = hv at *
 clear h0 hlg
 have hall:∀ i,i ≤ l.length → (∀ j (hj:j < l.length),j < i → patM 0 l[j] = true) → (∀ hi:i < l.length,patM 0 l[i] = false → l.all (patM 0) = false) ∧ (i = l.length → l.all (patM 0) = true):=fun i hi hinv=>
  ⟨fun hlt hf=>by rw [List.all_eq_false];exact ⟨l[i],List.getElem_mem hlt,by rw [hf];simp⟩,fun e=>by rw [List.all_eq_true];intro x hx;obtain ⟨j,hj,rfl⟩:=List.mem_iff_getElem.1 hx;exact hinv j hj (by omega)⟩
 constructor
 ·rintro ⟨rfl,hf⟩
  refine k128.go rfl (fun hok hsz=>?_)
  ((try refine W.a ?_);simp only [go_sem,seval,c128])
  (refine W.c1 (hS _) ?_;simp only [go_sem,seval])
  ((try refine W.a ?_);simp only [go_sem,seval,k4,k3])
  refine W.no rfl (W.a ?_);simp only [go_sem,seval,bne,k0];refine W.no rfl (W.a ?_);simp only [go_sem,seval]
  (refine W.c1 (hL _) ?_;simp only [go_sem,seval])
  ((try refine W.a ?_);simp only [go_sem,seval])
  refine W.yes rfl (W.a ?_);simp only [go_sem,seval];refine W.loopP (fun i=>i ≤ l.length ∧ ∀ j (hj:j < l.length),j < i → patM 0 l[j] = true) (fun i=>⟨((((((((base.put (some 1) (I v)).put (some 3) (B hv)).put (some 4) (B false)).put (some 5) (.ptr σ.length 0)).put (some 7) (.ptr (σ.length + 1) 0)).put (some 12) (.ptr (σ.length + 2) 0)).put (some 13) (.c (.sl (l.map Typ.cs)))).put (some 14) (I (i:Int))),σ ++ [.cells t.v.cellsV,.cells b.v.cellsV,.cells h.v.cellsV]⟩) (fun i=>l.length - i) 0 ⟨Nat.zero_le _,fun j hj e=>absurd e (Nat.not_lt_zero _)⟩ ?_ (fun i hi=>?_)
  ·(refine Lew.env ?_;exact lee_here)
  obtain ⟨hi,hinv⟩:=hi;obtain ⟨r1,r2⟩:=hall i hi hinv
  by_cases hlt:i < l.length
  ·have h1:(i:Int) < (l.length:Int):=by omega
   have h0:(0:Int) ≤ (i:Int):=by omega
   have hx:l[i]? = some l[i]:=List.getElem?_eq_getElem hlt
   have hw:IntKind.i64.wrap ((i:Int) + 1) = ((i + 1:Nat):Int):=by rw [wrap_in] <;> omega
   have hPi:=fun σ=>hP l[i] (List.getElem_mem hlt) σ
   cases hpt:patM 0 l[i]
   ·rw [hpt] at hPi
    ((try refine W.a ?_);simp only [go_sem,seval,h1])
    refine W.yes rfl (W.a ?_);simp only [go_sem,seval,h1,h0,hx]
    (refine W.c1 (hPi _) ?_;simp only [go_sem,seval])
    ((try refine W.a ?_);simp only [go_sem,seval])
    refine W.yes rfl (W.a ?_);simp only [go_sem,seval]
    (refine W.fs (hok) (by simp only [r128,go_sem,seval];rfl) ?_;simp only [resV];try exact V.wk.rfl _)
   ·rw [hpt] at hPi
    ((try refine W.a ?_);simp only [go_sem,seval,h1])
    refine W.yes rfl (W.a ?_);simp only [go_sem,seval,h1,h0,hx]
    (refine W.c1 (hPi _) ?_;simp only [go_sem,seval])
    ((try refine W.a ?_);simp only [go_sem,seval])
    refine W.no rfl (W.a ?_);simp only [go_sem,seval,hw];refine .inv ⟨i + 1,⟨hlt,fun m hm hmj=>?_⟩,by omega,?_⟩
    ·rcases Nat.lt_succ_iff_lt_or_eq.1 hmj with h' | h'
     ·exact hinv m hm h'
     ·subst h';exact hpt
    ·(refine Lew.env ?_;exact lee_here)
  obtain rfl:i = l.length:=by omega
  have h1:¬ ((l.length:Nat):Int) < ((l.length:Nat):Int):=by omega
  rw [r2 rfl] at hf
  cases hf
 ·intro hq
  refine k128.go rfl (fun hok hsz=>?_)
  cases any
  ·have hq:l.all (patM 0) = true:=by
    cases h:l.all (patM 0)
    ·exact absurd ⟨rfl,h⟩ hq
    ·rfl
   ((try refine W.a ?_);simp only [go_sem,seval,c128])
   (refine W.c1 (hS _) ?_;simp only [go_sem,seval])
   ((try refine W.a ?_);simp only [go_sem,seval,k4,k3])
   refine W.no rfl (W.a ?_);simp only [go_sem,seval,bne,k0];refine W.no rfl (W.a ?_);simp only [go_sem,seval]
   (refine W.c1 (hL _) ?_;simp only [go_sem,seval])
   ((try refine W.a ?_);simp only [go_sem,seval])
   refine W.yes rfl (W.a ?_);simp only [go_sem,seval];refine W.loopP (fun i=>i ≤ l.length ∧ ∀ j (hj:j < l.length),j < i → patM 0 l[j] = true) (fun i=>⟨((((((((base.put (some 1) (I v)).put (some 3) (B hv)).put (some 4) (B false)).put (some 5) (.ptr σ.length 0)).put (some 7) (.ptr (σ.length + 1) 0)).put (some 12) (.ptr (σ.length + 2) 0)).put (some 13) (.c (.sl (l.map Typ.cs)))).put (some 14) (I (i:Int))),σ ++ [.cells t.v.cellsV,.cells b.v.cellsV,.cells h.v.cellsV]⟩) (fun i=>l.length - i) 0 ⟨Nat.zero_le _,fun j hj e=>absurd e (Nat.not_lt_zero _)⟩ ?_ (fun i hi=>?_)
   ·(refine Lew.env ?_;exact lee_here)
   obtain ⟨hi,hinv⟩:=hi;obtain ⟨r1,r2⟩:=hall i hi hinv
   by_cases hlt:i < l.length
   ·have h1:(i:Int) < (l.length:Int):=by omega
    have h0:(0:Int) ≤ (i:Int):=by omega
    have hx:l[i]? = some l[i]:=List.getElem?_eq_getElem hlt
    have hw:IntKind.i64.wrap ((i:Int) + 1) = ((i + 1:Nat):Int):=by rw [wrap_in] <;> omega
    have hPi:=fun σ=>hP l[i] (List.getElem_mem hlt) σ
    cases hpt:patM 0 l[i]
    ·rw [hpt] at hPi
     ((try refine W.a ?_);simp only [go_sem,seval,h1])
     refine W.yes rfl (W.a ?_);simp only [go_sem,seval,h1,h0,hx]
     (refine W.c1 (hPi _) ?_;simp only [go_sem,seval])
     ((try refine W.a ?_);simp only [go_sem,seval])
     exact absurd (r1 hlt hpt) (by rw [hq];simp)
    ·rw [hpt] at hPi
     ((try refine W.a ?_);simp only [go_sem,seval,h1])
     refine W.yes rfl (W.a ?_);simp only [go_sem,seval,h1,h0,hx]
     (refine W.c1 (hPi _) ?_;simp only [go_sem,seval])
     ((try refine W.a ?_);simp only [go_sem,seval])
     refine W.no rfl (W.a ?_);simp only [go_sem,seval,hw];refine .inv ⟨i + 1,⟨hlt,fun m hm hmj=>?_⟩,by omega,?_⟩
     ·rcases Nat.lt_succ_iff_lt_or_eq.1 hmj with h' | h'
      ·exact hinv m hm h'
      ·subst h';exact hpt
     ·(refine Lew.env ?_;exact lee_here)
   obtain rfl:i = l.length:=by omega
   have h1:¬ ((l.length:Nat):Int) < ((l.length:Nat):Int):=by omega
   clear r1 r2 hall hinv hP
   cases hv
   ·((try refine W.a ?_);simp only [go_sem,seval,h1,trueT])
    refine W.no rfl (W.a ?_);simp only [go_sem,seval];refine W.yes rfl (W.a ?_);simp only [go_sem,seval,trueT]
    (refine W.fs (hok) (by simp only [r128,go_sem,seval,trueT,if_neg];rfl) ?_ (hl:=by (first | exact .c _ | (simp only [go_sem,seval,trueT,if_neg];done)));simp only [resV,trueT,if_neg];try exact V.wk.rfl _)
    all_goals (all_goals exact wk_here)
   ·((try refine W.a ?_);simp only [go_sem,seval,h1])
    refine W.no rfl (W.a ?_);simp only [go_sem,seval];refine W.no rfl (W.a ?_);simp only [go_sem,seval]
    (refine W.fs (hok) (by simp only [r128,go_sem,seval];rfl) ?_;simp only [resV];try exact V.wk.rfl _)
    all_goals (all_goals exact wk_here)
  ·clear hq
   ((try refine W.a ?_);simp only [go_sem,seval,c128])
   (refine W.c1 (hS _) ?_;simp only [go_sem,seval])
   ((try refine W.a ?_);simp only [go_sem,seval,k4,k3])
   refine W.no rfl (W.a ?_);simp only [go_sem,seval,bne,k0];refine W.no rfl (W.a ?_);simp only [go_sem,seval]
   (refine W.c1 (hL _) ?_;simp only [go_sem,seval])
   ((try refine W.a ?_);simp only [go_sem,seval])
   refine W.yes rfl (W.a ?_);simp only [go_sem,seval];refine W.loopP (fun i=>i ≤ l.length) (fun i=>⟨((((((((base.put (some 1) (I v)).put (some 3) (B hv)).put (some 4) (B true)).put (some 5) (.ptr σ.length 0)).put (some 7) (.ptr (σ.length + 1) 0)).put (some 12) (.ptr (σ.length + 2) 0)).put (some 13) (.c (.sl (l.map Typ.cs)))).put (some 14) (I (i:Int))),σ ++ [.cells t.v.cellsV,.cells b.v.cellsV,.cells h.v.cellsV]⟩) (fun i=>l.length - i) 0 (Nat.zero_le _) ?_ (fun i hi=>?_)
   ·(refine Lew.env ?_;exact lee_here)
   by_cases hlt:i < l.length
   ·have h1:(i:Int) < (l.length:Int):=by omega
    have h0:(0:Int) ≤ (i:Int):=by omega
    have hx:l[i]? = some l[i]:=List.getElem?_eq_getElem hlt
    have hw:IntKind.i64.wrap ((i:Int) + 1) = ((i + 1:Nat):Int):=by rw [wrap_in] <;> omega
    have hPi:=fun σ=>hP l[i] (List.getElem_mem hlt) σ
    cases hpt:patM 0 l[i]
    ·rw [hpt] at hPi
     ((try refine W.a ?_);simp only [go_sem,seval,h1])
     refine W.yes rfl (W.a ?_);simp only [go_sem,seval,h1,h0,hx]
     (refine W.c1 (hPi _) ?_;simp only [go_sem,seval])
     ((try refine W.a ?_);simp only [go_sem,seval])
     refine W.no rfl (W.a ?_);simp only [go_sem,seval,hw];refine .inv ⟨i + 1,hlt,by omega,?_⟩
     (refine Lew.env ?_;exact lee_here)
    ·rw [hpt] at hPi
     ((try refine W.a ?_);simp only [go_sem,seval,h1])
     refine W.yes rfl (W.a ?_);simp only [go_sem,seval,h1,h0,hx]
     (refine W.c1 (hPi _) ?_;simp only [go_sem,seval])
     ((try refine W.a ?_);simp only [go_sem,seval])
     refine W.no rfl (W.a ?_);simp only [go_sem,seval,hw];refine .inv ⟨i + 1,hlt,by omega,?_⟩
     (refine Lew.env ?_;exact lee_here)
   obtain rfl:i = l.length:=by omega
   have h1:¬ ((l.length:Nat):Int) < ((l.length:Nat):Int):=by omega
   clear hall hP
   cases hv
   ·((try refine W.a ?_);simp only [go_sem,seval,h1,trueT])
    refine W.no rfl (W.a ?_);simp only [go_sem,seval];refine W.yes rfl (W.a ?_);simp only [go_sem,seval,trueT]
    (refine W.fs (hok) (by simp only [r128,go_sem,seval,trueT,if_neg];rfl) ?_ (hl:=by (first | exact .c _ | (simp only [go_sem,seval,trueT,if_neg];done)));simp only [resV,trueT,if_neg];try exact V.wk.rfl _)
    all_goals (all_goals exact wk_here)
   ·((try refine W.a ?_);simp only [go_sem,seval,h1])
    refine W.no rfl (W.a ?_);simp only [go_sem,seval];refine W.no rfl (W.a ?_);simp only [go_sem,seval]
    (refine W.fs (hok) (by simp only [r128,go_sem,seval];rfl) ?_;simp only [resV];try exact V.wk.rfl _)
    all_goals (all_goals exact wk_here)
theorem refc_args (w0:World) (any:Bool) (v:Int) (gs:List Typ) (t:Typ) {h:Typ} {l:List Typ} (hS:∀ σ,DC Tryz.prog w0 129 [t.v] σ (Same (.tup [h.v,.c (.sl (l.map Typ.cs))]) σ)) (h0:h.k = 0) (hlg:logicalB h.name = true) (hl:(l.length:Int) ≠ argsM h.name) (gv:V) (hb:Bool) (hgv:gv = (andsM gs).v) (σ:H):DC Tryz.prog w0 128 [t.v,I v,gv,B hb,B any] σ (Same (.tup [.csl [],I 130]) σ):=by
 subst hgv
 generalize andsM gs = b at *
 refine k128.go rfl (fun hok hsz=>?_)
 have k4:(h.k == 4) = false:=by simp [h0]
 have k3:(h.k == 3) = false:=by simp [h0]
 have k0:(h.k == 0) = true:=by simp [h0]
 have hL:=fun σ=>ref11_Logical w0 h.name σ
 rw [hlg] at hL
 have hA:=fun σ=>ref13_Args w0 h.name σ
 have ka:((l.length:Int) == argsM h.name) = false:=by simp [hl]
 clear hl h0 hlg
 ((try refine W.a ?_);simp only [go_sem,seval,c128])
 (refine W.c1 (hS _) ?_;simp only [go_sem,seval])
 ((try refine W.a ?_);simp only [go_sem,seval,k4,k3])
 refine W.no rfl (W.a ?_)
 simp only [go_sem,seval,bne,k0]
 refine W.no rfl (W.a ?_)
 simp only [go_sem,seval]
 (refine W.c1 (hL _) ?_;simp only [go_sem,seval])
 ((try refine W.a ?_);simp only [go_sem,seval])
 refine W.no rfl (W.a ?_)
 simp only [go_sem,seval]
 (refine W.c1 (hA _) ?_;simp only [go_sem,seval])
 ((try refine W.a ?_);simp only [go_sem,seval,bne,ka])
 refine W.yes rfl (W.a ?_)
 simp only [go_sem,seval]
 (refine W.fs (hok) (by simp only [r128,go_sem,seval];rfl) ?_;simp only [resV];try exact V.wk.rfl _)
theorem refc_no (w0:World) (any:Bool) (v:Int) (gs:List Typ) (t:Typ) {h:Typ} {l:List Typ} (hS:∀ σ,DC Tryz.prog w0 129 [t.v] σ (Same (.tup [h.v,.c (.sl (l.map Typ.cs))]) σ)) (h0:h.k = 0) (hlg:logicalB h.name = true) (hl:(l.length:Int) = argsM h.name) (hn:h.name ≠ [44] ∧ h.name ≠ [112,105] ∧ h.name ≠ [58,45] ∧ h.name ≠ [61,62]) (gv:V) (hb:Bool) (hgv:gv = (andsM gs).v) (σ:H):DC Tryz.prog w0 128 [t.v,I v,gv,B hb,B any] σ (Same (.tup [.csl [],I 131]) σ):=by
 subst hgv
 generalize andsM gs = b at *
 refine k128.go rfl (fun hok hsz=>?_)
 have k4:(h.k == 4) = false:=by simp [h0]
 have k3:(h.k == 3) = false:=by simp [h0]
 have k0:(h.k == 0) = true:=by simp [h0]
 have hL:=fun σ=>ref11_Logical w0 h.name σ
 rw [hlg] at hL
 have hA:=fun σ=>ref13_Args w0 h.name σ
 have ka:((l.length:Int) == argsM h.name) = true:=by simp [hl]
 have n1:(h.name == [44]) = false:=by simpa using hn.1
 have n2:(h.name == [112,105]) = false:=by simpa using hn.2.1
 have n3:(h.name == [58,45]) = false:=by simpa using hn.2.2.1
 have n4:(h.name == [61,62]) = false:=by simpa using hn.2.2.2
 clear hl h0 hlg hn
 ((try refine W.a ?_);simp only [go_sem,seval,c128])
 (refine W.c1 (hS _) ?_;simp only [go_sem,seval])
 ((try refine W.a ?_);simp only [go_sem,seval,k4,k3])
 refine W.no rfl (W.a ?_)
 simp only [go_sem,seval,bne,k0]
 refine W.no rfl (W.a ?_)
 simp only [go_sem,seval]
 (refine W.c1 (hL _) ?_;simp only [go_sem,seval])
 ((try refine W.a ?_);simp only [go_sem,seval])
 refine W.no rfl (W.a ?_)
 simp only [go_sem,seval]
 (refine W.c1 (hA _) ?_;simp only [go_sem,seval])
 ((try refine W.a ?_);simp only [go_sem,seval,bne,ka,n1,n2,n3,n4])
 repeat (refine W.no rfl ?_;((try refine W.a ?_);simp only [go_sem,seval,n1,n2,n3,n4]))
 (refine W.fs (hok) (by simp only [r128,go_sem,seval];rfl) ?_;simp only [resV];try exact V.wk.rfl _)
theorem refc_and (w0:World) (any:Bool) (v:Int) (gs:List Typ) (t:Typ) {h:Typ} {a b:Typ} (hS:∀ σ,DC Tryz.prog w0 129 [t.v] σ (Same (.tup [h.v,.c (.sl ([a,b].map Typ.cs))]) σ)) (h0:h.k = 0) (hnm':h.name = [44]) {Ra Rb:List Cla × Int} (hRa:RcOk w0 [a.v,I v,(andsM gs).v,B (hvB gs),B any] Ra) (hRb:RcOk w0 [b.v,I v,(andsM gs).v,B (hvB gs),B any] Rb)
  (la:Ra.1.length ≤ 100000) (lb:Rb.1.length ≤ 100000) (pa:Ra.2 = 0 → Ra.1 ≠ []) (pb:Rb.2 = 0 → Rb.1 ≠ []):RcOk w0 [t.v,I v,(andsM gs).v,B (hvB gs),B any] (if Ra.2 ≠ 0 then Ra else (Ra.1 ++ Rb.1,Rb.2)):=by
 have hL:=fun σ=>ref11_Logical w0 h.name σ
 have hA:=fun σ=>ref13_Args w0 h.name σ
 rw [hnm'] at hL hA
 rw [show logicalB [44] = true by decide] at hL
 rw [show argsM [44] = 2 by decide] at hA
 obtain ⟨hk,hnm,hnn,hll⟩:=h
 simp only [tk_mk,tname_mk] at h0 hnm'
 subst h0 hnm'
 simp only [List.map_cons,List.map_nil] at hS
 have hB:=hRb.any
 generalize andsM gs = bd at *
 generalize hvB gs = hv at *
 by_cases ha:Ra.2 = 0
 ·have hallA:(∀ r ∈ Ra.1.map Cla.cs,r.length = 9) = True:=eq_true (fun r hr=>by obtain ⟨c,_,rfl⟩:=List.mem_map.1 hr;rfl)
  rw [if_neg (fun e=>e ha)]
  by_cases hb:Rb.2 = 0
  ·have hallB:(∀ r ∈ Rb.1.map Cla.cs,r.length = 9) = True:=eq_true (fun r hr=>by obtain ⟨c,_,rfl⟩:=List.mem_map.1 hr;rfl)
   have hbn:Rb.1 ≠ []:=pb hb
   have hbl:0 < Rb.1.length:=List.length_pos_iff.2 hbn
   have hal:0 < Ra.1.length:=List.length_pos_iff.2 (pa ha)
   have hne:(Rb.1.map Cla.cs = []) = False:=by simpa using hbn
   have er:erR Rb = Rb:=if_pos hb
   rw [er] at hB
   have hap:(Ra.1 ++ Rb.1).map Cla.cs = Ra.1.map Cla.cs ++ Rb.1.map Cla.cs:=List.map_append
   refine RcOk.of_many hb (by rw [List.length_append];omega) (fun σ=>?_)
   simp only [hap,List.length_append];rw [hb] at hB
   have c1:(Ra.1.length + Rb.1.length) * 120 ≤ 140737488355328:=by omega
   have c2:Ra.1.length + Rb.1.length ≤ 140737488355328:=by omega
   by_cases hl:Ra.1.length ≤ 1
   ·have hA1:=hRa.one ha hl
    have hla:(Ra.1.map Cla.cs).length = Ra.1.length:=List.length_map ..
    have hlb:(Rb.1.map Cla.cs).length = Rb.1.length:=List.length_map ..
    generalize Ra.1.map Cla.cs = RA at *;generalize Rb.1.map Cla.cs = RB at *;clear hRa hRb pa pb ha hb hbn er hap;refine k128.goN rfl (fun hok hsz=>?_)
    ((try refine W.a ?_);simp only [go_sem,seval,c128])
    (refine W.c1 (hS _) ?_;simp only [go_sem,seval])
    ((try refine W.a ?_);simp only [go_sem,seval,bne])
    refine W.no rfl (W.a ?_);simp only [go_sem,seval,bne];refine W.no rfl (W.a ?_);simp only [go_sem,seval]
    (refine W.c1 (hL _) ?_;simp only [go_sem,seval])
    ((try refine W.a ?_);simp only [go_sem,seval])
    refine W.no rfl (W.a ?_);simp only [go_sem,seval]
    (refine W.c1 (hA _) ?_;simp only [go_sem,seval])
    ((try refine W.a ?_);simp only [go_sem,seval,bne])
    refine W.no rfl (W.a ?_);simp only [go_sem,seval]
    repeat (first | (refine W.yes rfl ?_;((try refine W.a ?_);simp only [go_sem,seval])) | (refine W.no rfl ?_;((try refine W.a ?_);simp only [go_sem,seval])))
    apply W.dregE (List.cons_ne_nil _ _)
    case hc=>
     (apply CanonE.advPO;simp only [go_sem,seval,nat0])
     (apply CanonE.call (hA1 _);(case hg=>rfl);(case hf=>rfl);(case ha=>first | rfl | simp))
     (apply CanonE.advPO;simp only [go_sem,seval])
     exact CanonE.nil
    ((try refine W.a ?_);simp only [go_sem,seval])
    refine W.no rfl (W.a ?_);simp only [go_sem,seval];apply W.dregE (List.cons_ne_nil _ _)
    case hc=>
     (apply CanonE.advPO;simp only [go_sem,seval,nat0])
     (apply CanonE.call (hB _);(case hg=>rfl);(case hf=>rfl);(case ha=>first | rfl | simp))
     (apply CanonE.advPO;simp only [go_sem,seval])
     exact CanonE.nil
    ((try refine W.a ?_);simp only [go_sem,seval])
    refine W.no rfl (W.a ?_);simp only [go_sem,seval,hallA,hallB,hne,hla,hlb,c1,c2,or_true,ne_eq,not_false_eq_true];refine W.ret ⟨_,_,(by simp only [resEval,r128,go_sem,seval];rfl),.rfl _,?_⟩
    exact ⟨[_,_,_],[],rfl,rfl⟩
   ·have hA1:=hRa.many ha (by omega)
    have hla:(Ra.1.map Cla.cs).length = Ra.1.length:=List.length_map ..
    have hlb:(Rb.1.map Cla.cs).length = Rb.1.length:=List.length_map ..
    generalize Ra.1.map Cla.cs = RA at *;generalize Rb.1.map Cla.cs = RB at *;clear hRa hRb pa pb ha hb hbn er hap;refine k128.goN rfl (fun hok hsz=>?_)
    ((try refine W.a ?_);simp only [go_sem,seval,c128])
    (refine W.c1 (hS _) ?_;simp only [go_sem,seval])
    ((try refine W.a ?_);simp only [go_sem,seval,bne])
    refine W.no rfl (W.a ?_);simp only [go_sem,seval,bne];refine W.no rfl (W.a ?_);simp only [go_sem,seval]
    (refine W.c1 (hL _) ?_;simp only [go_sem,seval])
    ((try refine W.a ?_);simp only [go_sem,seval])
    refine W.no rfl (W.a ?_);simp only [go_sem,seval]
    (refine W.c1 (hA _) ?_;simp only [go_sem,seval])
    ((try refine W.a ?_);simp only [go_sem,seval,bne])
    refine W.no rfl (W.a ?_);simp only [go_sem,seval]
    repeat (first | (refine W.yes rfl ?_;((try refine W.a ?_);simp only [go_sem,seval])) | (refine W.no rfl ?_;((try refine W.a ?_);simp only [go_sem,seval])))
    apply W.dregE (List.cons_ne_nil _ _)
    case hc=>
     (apply CanonE.advPO;simp only [go_sem,seval,nat0])
     (apply CanonE.call (hA1 _);(case hg=>rfl);(case hf=>rfl);(case ha=>first | rfl | simp))
     (apply CanonE.advPO;simp only [go_sem,seval])
     exact CanonE.nil
    ((try refine W.a ?_);simp only [go_sem,seval])
    refine W.no rfl (W.a ?_);simp only [go_sem,seval];apply W.dregE (List.cons_ne_nil _ _)
    case hc=>
     (apply CanonE.advPO;simp only [go_sem,seval,nat0])
     (apply CanonE.call (hB _);(case hg=>rfl);(case hf=>rfl);(case ha=>first | rfl | simp))
     (apply CanonE.advPO;simp only [go_sem,seval])
     exact CanonE.nil
    ((try refine W.a ?_);simp only [go_sem,seval])
    refine W.no rfl (W.a ?_);simp only [go_sem,seval,hallA,hallB,hne,hla,hlb,c1,c2,or_true,ne_eq,not_false_eq_true];refine W.ret ⟨_,_,(by simp only [resEval,r128,go_sem,seval];rfl),.rfl _,?_⟩
    exact ⟨[_,_,_],[],rfl,rfl⟩
  ·refine RcOk.of_err hb (fun σ=>?_)
   have hA1:∀ σ,DC Tryz.prog w0 128 [a.v,I v,bd.v,B hv,B any] σ (Same (.tup [.c (.sl (Ra.1.map Cla.cs)),I 0]) σ):=fun σ=>by
    have:=hRa.any σ
    rwa [show erR Ra = Ra from if_pos ha,ha] at this
   have kb:(Rb.2 == 0) = false:=by simp [hb]
   have er:erR Rb = ([],Rb.2):=if_neg hb
   rw [er] at hB;simp only [List.map_nil] at hB;generalize Rb.2 = eb at *;clear hRa hRb pa pb ha hb er;refine k128.go rfl (fun hok hsz=>?_)
   ((try refine W.a ?_);simp only [go_sem,seval,c128])
   (refine W.c1 (hS _) ?_;simp only [go_sem,seval])
   ((try refine W.a ?_);simp only [go_sem,seval,bne])
   refine W.no rfl (W.a ?_);simp only [go_sem,seval,bne];refine W.no rfl (W.a ?_);simp only [go_sem,seval]
   (refine W.c1 (hL _) ?_;simp only [go_sem,seval])
   ((try refine W.a ?_);simp only [go_sem,seval])
   refine W.no rfl (W.a ?_);simp only [go_sem,seval]
   (refine W.c1 (hA _) ?_;simp only [go_sem,seval])
   ((try refine W.a ?_);simp only [go_sem,seval,bne])
   refine W.no rfl (W.a ?_);simp only [go_sem,seval]
   repeat (first | (refine W.yes rfl ?_;((try refine W.a ?_);simp only [go_sem,seval])) | (refine W.no rfl ?_;((try refine W.a ?_);simp only [go_sem,seval])))
   apply W.dregE (List.cons_ne_nil _ _)
   case hc=>
    (apply CanonE.advPO;simp only [go_sem,seval,nat0])
    (apply CanonE.call (hA1 _);(case hg=>rfl);(case hf=>rfl);(case ha=>first | rfl | simp))
    (apply CanonE.advPO;simp only [go_sem,seval])
    exact CanonE.nil
   ((try refine W.a ?_);simp only [go_sem,seval])
   refine W.no rfl (W.a ?_);simp only [go_sem,seval];apply W.dregE (List.cons_ne_nil _ _)
   case hc=>
    (apply CanonE.advPO;simp only [go_sem,seval,nat0])
    (apply CanonE.call (hB _);(case hg=>rfl);(case hf=>rfl);(case ha=>first | rfl | simp))
    (apply CanonE.advPO;simp only [go_sem,seval])
    exact CanonE.nil
   ((try refine W.a ?_);simp only [go_sem,seval,bne,kb])
   refine W.yes rfl (W.a ?_);simp only [go_sem,seval]
   (refine W.fs (hok) (by simp only [r128,go_sem,seval];rfl) ?_;simp only [resV];try exact V.wk.rfl _)
 ·rw [if_pos ha]
  refine RcOk.of_err ha (fun σ=>?_)
  have hA1:=hRa.err ha
  have ka:(Ra.2 == 0) = false:=by simp [ha]
  generalize Ra.2 = ea at *;clear hRa hRb pa pb ha hB;refine k128.go rfl (fun hok hsz=>?_)
  ((try refine W.a ?_);simp only [go_sem,seval,c128])
  (refine W.c1 (hS _) ?_;simp only [go_sem,seval])
  ((try refine W.a ?_);simp only [go_sem,seval,bne])
  refine W.no rfl (W.a ?_);simp only [go_sem,seval,bne];refine W.no rfl (W.a ?_);simp only [go_sem,seval]
  (refine W.c1 (hL _) ?_;simp only [go_sem,seval])
  ((try refine W.a ?_);simp only [go_sem,seval])
  refine W.no rfl (W.a ?_);simp only [go_sem,seval]
  (refine W.c1 (hA _) ?_;simp only [go_sem,seval])
  ((try refine W.a ?_);simp only [go_sem,seval,bne])
  refine W.no rfl (W.a ?_);simp only [go_sem,seval]
  repeat (first | (refine W.yes rfl ?_;((try refine W.a ?_);simp only [go_sem,seval])) | (refine W.no rfl ?_;((try refine W.a ?_);simp only [go_sem,seval])))
  apply W.dregE (List.cons_ne_nil _ _)
  case hc=>
   (apply CanonE.advPO;simp only [go_sem,seval,nat0])
   (apply CanonE.call (hA1 _);(case hg=>rfl);(case hf=>rfl);(case ha=>first | rfl | simp))
   (apply CanonE.advPO;simp only [go_sem,seval])
   exact CanonE.nil
  ((try refine W.a ?_);simp only [go_sem,seval,bne,ka])
  refine W.yes rfl (W.a ?_);simp only [go_sem,seval]
  (refine W.fs (hok) (by simp only [r128,go_sem,seval];rfl) ?_;simp only [resV];try exact V.wk.rfl _)
theorem refc_pi (w0:World) (any:Bool) (v:Int) (gs:List Typ) (t:Typ) {h:Typ} {a:Typ} (hS:∀ σ,DC Tryz.prog w0 129 [t.v] σ (Same (.tup [h.v,.c (.sl ([a].map Typ.cs))]) σ)) (h0:h.k = 0) (hnm':h.name = [112,105]) {R:List Cla × Int} {ba b2:Typ} (hv':-1000000 ≤ v ∧ v ≤ 1000000) (hB:∀ σ,DC Tryz.prog w0 132 [a.v] σ (Same ba.v σ)) (hSh:∀ σ,DC Tryz.prog w0 139 [(andsM gs).v,I 0,I 1] σ (Same b2.v σ))
  (hR:RcOk w0 [ba.v,I (v + 1),b2.v,B (hvB gs),B any] R):RcOk w0 [t.v,I v,(andsM gs).v,B (hvB gs),B any] R:=by
 have hL:=fun σ=>ref11_Logical w0 h.name σ
 have hA:=fun σ=>ref13_Args w0 h.name σ
 rw [hnm'] at hL hA
 rw [show logicalB [112,105] = true by decide] at hL
 rw [show argsM [112,105] = 1 by decide] at hA
 obtain ⟨hk,hnm,hnn,hll⟩:=h
 simp only [tk_mk,tname_mk] at h0 hnm'
 subst h0 hnm'
 simp only [List.map_cons,List.map_nil] at hS
 generalize andsM gs = bd at *
 generalize hvB gs = hv at *
 have hw:IntKind.i64.wrap (v + 1) = v + 1:=by rw [wrap_in] <;> omega
 obtain ⟨x,X,hK,hback⟩:=hR.gen
 refine hback _ (fun σ=>?_)
 generalize R.2 = RE at *
 refine k128.goN rfl (fun hok hsz=>?_)
 ((try refine W.a ?_);simp only [go_sem,seval,c128])
 (refine W.c1 (hS _) ?_;simp only [go_sem,seval])
 ((try refine W.a ?_);simp only [go_sem,seval,bne])
 refine W.no rfl (W.a ?_)
 simp only [go_sem,seval,bne]
 refine W.no rfl (W.a ?_)
 simp only [go_sem,seval]
 (refine W.c1 (hL _) ?_;simp only [go_sem,seval])
 ((try refine W.a ?_);simp only [go_sem,seval])
 refine W.no rfl (W.a ?_)
 simp only [go_sem,seval]
 (refine W.c1 (hA _) ?_;simp only [go_sem,seval])
 ((try refine W.a ?_);simp only [go_sem,seval,bne])
 refine W.no rfl (W.a ?_)
 simp only [go_sem,seval]
 repeat (first | (refine W.yes rfl ?_;((try refine W.a ?_);simp only [go_sem,seval])) | (refine W.no rfl ?_;((try refine W.a ?_);simp only [go_sem,seval])))
 apply W.dregE (List.cons_ne_nil _ _)
 case hc=>
  (apply CanonE.advPO;simp only [go_sem,seval,nat0,hw])
  (apply CanonE.call (hB _);(case hg=>rfl);(case hf=>rfl);(case ha=>first | rfl | simp))
  (apply CanonE.advPO;simp only [go_sem,seval,hw])
  (apply CanonE.call (hSh _);(case hg=>rfl);(case hf=>rfl);(case ha=>first | rfl | simp))
  (apply CanonE.advPO;simp only [go_sem,seval,hw])
  (apply CanonE.call (hK _);(case hg=>rfl);(case hf=>rfl);(case ha=>first | rfl | simp))
  (apply CanonE.advPO;simp only [go_sem,seval,hw])
  exact CanonE.nil
 ((try refine W.a ?_);simp only [go_sem,seval])
 refine W.ret ⟨_,_,(by simp only [resEval,r128,go_sem,seval];rfl),.rfl _,?_⟩
 exact ⟨[_,_,_],rfl,rfl⟩
theorem refc_if_no (w0:World) (any:Bool) (v:Int) (gs:List Typ) (t:Typ) {h:Typ} {a b:Typ} (hS:∀ σ,DC Tryz.prog w0 129 [t.v] σ (Same (.tup [h.v,.c (.sl ([a,b].map Typ.cs))]) σ)) (h0:h.k = 0) (hnm':h.name = [58,45]) {eg:Int} (hG:∀ σ,DC Tryz.prog w0 50 [b.v] σ (Same (I eg) σ)) (hg:eg ≠ 0) (gv:V) (hb:Bool) (hgv:gv = (andsM gs).v) (σ:H):DC Tryz.prog w0 128 [t.v,I v,gv,B hb,B any] σ (Same (.tup [.csl [],I eg]) σ):=by
 subst hgv
 have hL:=fun σ=>ref11_Logical w0 h.name σ
 have hA:=fun σ=>ref13_Args w0 h.name σ
 rw [hnm'] at hL hA
 rw [show logicalB [58,45] = true by decide] at hL
 rw [show argsM [58,45] = 2 by decide] at hA
 obtain ⟨hk,hnm,hnn,hll⟩:=h
 simp only [tk_mk,tname_mk] at h0 hnm'
 subst h0 hnm'
 simp only [List.map_cons,List.map_nil] at hS
 generalize andsM gs = bd at *
 have kg:(eg == 0) = false:=by simp [hg]
 refine k128.go rfl (fun hok hsz=>?_)
 ((try refine W.a ?_);simp only [go_sem,seval,c128])
 (refine W.c1 (hS _) ?_;simp only [go_sem,seval])
 ((try refine W.a ?_);simp only [go_sem,seval,bne])
 refine W.no rfl (W.a ?_)
 simp only [go_sem,seval,bne]
 refine W.no rfl (W.a ?_)
 simp only [go_sem,seval]
 (refine W.c1 (hL _) ?_;simp only [go_sem,seval])
 ((try refine W.a ?_);simp only [go_sem,seval])
 refine W.no rfl (W.a ?_)
 simp only [go_sem,seval]
 (refine W.c1 (hA _) ?_;simp only [go_sem,seval])
 ((try refine W.a ?_);simp only [go_sem,seval,bne])
 refine W.no rfl (W.a ?_)
 simp only [go_sem,seval]
 repeat (first | (refine W.yes rfl ?_;((try refine W.a ?_);simp only [go_sem,seval])) | (refine W.no rfl ?_;((try refine W.a ?_);simp only [go_sem,seval])))
 (refine W.c1 (hG _) ?_;simp only [go_sem,seval])
 ((try refine W.a ?_);simp only [go_sem,seval,bne,kg])
 refine W.yes rfl (W.a ?_)
 simp only [go_sem,seval]
 (refine W.fs (hok) (by simp only [r128,go_sem,seval];rfl) ?_;simp only [resV];try exact V.wk.rfl _)
theorem refc_if (w0:World) (any:Bool) (v:Int) (gs:List Typ) (t:Typ) {h:Typ} {a b:Typ} (hS:∀ σ,DC Tryz.prog w0 129 [t.v] σ (Same (.tup [h.v,.c (.sl ([a,b].map Typ.cs))]) σ)) (h0:h.k = 0) (hnm':h.name = [58,45]) {R:List Cla × Int} {b2:Typ} (hG:∀ σ,DC Tryz.prog w0 50 [b.v] σ (Same (I 0) σ)) (hN:∀ σ,DC Tryz.prog w0 225 [(andsM gs).v,B (hvB gs),b.v] σ (Same b2.v σ))
  (hR:RcOk w0 [a.v,I v,b2.v,B true,B any] R):RcOk w0 [t.v,I v,(andsM gs).v,B (hvB gs),B any] R:=by
 have hL:=fun σ=>ref11_Logical w0 h.name σ
 have hA:=fun σ=>ref13_Args w0 h.name σ
 rw [hnm'] at hL hA
 rw [show logicalB [58,45] = true by decide] at hL
 rw [show argsM [58,45] = 2 by decide] at hA
 obtain ⟨hk,hnm,hnn,hll⟩:=h
 simp only [tk_mk,tname_mk] at h0 hnm'
 subst h0 hnm'
 simp only [List.map_cons,List.map_nil] at hS
 generalize andsM gs = bd at *
 generalize hvB gs = hv at *
 have hw:=nat0
 obtain ⟨x,X,hK,hback⟩:=hR.gen
 refine hback _ (fun σ=>?_)
 generalize R.2 = RE at *
 refine k128.goN rfl (fun hok hsz=>?_)
 ((try refine W.a ?_);simp only [go_sem,seval,c128])
 (refine W.c1 (hS _) ?_;simp only [go_sem,seval])
 ((try refine W.a ?_);simp only [go_sem,seval,bne])
 refine W.no rfl (W.a ?_)
 simp only [go_sem,seval,bne]
 refine W.no rfl (W.a ?_)
 simp only [go_sem,seval]
 (refine W.c1 (hL _) ?_;simp only [go_sem,seval])
 ((try refine W.a ?_);simp only [go_sem,seval])
 refine W.no rfl (W.a ?_)
 simp only [go_sem,seval]
 (refine W.c1 (hA _) ?_;simp only [go_sem,seval])
 ((try refine W.a ?_);simp only [go_sem,seval,bne])
 refine W.no rfl (W.a ?_)
 simp only [go_sem,seval]
 repeat (first | (refine W.yes rfl ?_;((try refine W.a ?_);simp only [go_sem,seval])) | (refine W.no rfl ?_;((try refine W.a ?_);simp only [go_sem,seval])))
 (refine W.c1 (hG _) ?_;simp only [go_sem,seval])
 ((try refine W.a ?_);simp only [go_sem,seval,bne])
 refine W.no rfl (W.a ?_)
 simp only [go_sem,seval]
 apply W.dregE (List.cons_ne_nil _ _)
 case hc=>
  (apply CanonE.advPO;simp only [go_sem,seval,nat0,hw])
  (apply CanonE.call (hN _);(case hg=>rfl);(case hf=>rfl);(case ha=>first | rfl | simp))
  (apply CanonE.advPO;simp only [go_sem,seval,hw])
  (apply CanonE.call (hK _);(case hg=>rfl);(case hf=>rfl);(case ha=>first | rfl | simp))
  (apply CanonE.advPO;simp only [go_sem,seval,hw])
  exact CanonE.nil
 ((try refine W.a ?_);simp only [go_sem,seval])
 refine W.ret ⟨_,_,(by simp only [resEval,r128,go_sem,seval];rfl),.rfl _,?_⟩
 exact ⟨[_,_,_,_,_],rfl,rfl⟩
theorem refc_imp_no (w0:World) (any:Bool) (v:Int) (gs:List Typ) (t:Typ) {h:Typ} {a b:Typ} (hS:∀ σ,DC Tryz.prog w0 129 [t.v] σ (Same (.tup [h.v,.c (.sl ([a,b].map Typ.cs))]) σ)) (h0:h.k = 0) (hnm':h.name = [61,62]) {eg:Int} (hG:∀ σ,DC Tryz.prog w0 50 [a.v] σ (Same (I eg) σ)) (hg:eg ≠ 0) (gv:V) (hb:Bool) (hgv:gv = (andsM gs).v) (σ:H):DC Tryz.prog w0 128 [t.v,I v,gv,B hb,B any] σ (Same (.tup [.csl [],I eg]) σ):=by
 subst hgv
 have hL:=fun σ=>ref11_Logical w0 h.name σ
 have hA:=fun σ=>ref13_Args w0 h.name σ
 rw [hnm'] at hL hA
 rw [show logicalB [61,62] = true by decide] at hL
 rw [show argsM [61,62] = 2 by decide] at hA
 obtain ⟨hk,hnm,hnn,hll⟩:=h
 simp only [tk_mk,tname_mk] at h0 hnm'
 subst h0 hnm'
 simp only [List.map_cons,List.map_nil] at hS
 generalize andsM gs = bd at *
 have kg:(eg == 0) = false:=by simp [hg]
 refine k128.go rfl (fun hok hsz=>?_)
 ((try refine W.a ?_);simp only [go_sem,seval,c128])
 (refine W.c1 (hS _) ?_;simp only [go_sem,seval])
 ((try refine W.a ?_);simp only [go_sem,seval,bne])
 refine W.no rfl (W.a ?_)
 simp only [go_sem,seval,bne]
 refine W.no rfl (W.a ?_)
 simp only [go_sem,seval]
 (refine W.c1 (hL _) ?_;simp only [go_sem,seval])
 ((try refine W.a ?_);simp only [go_sem,seval])
 refine W.no rfl (W.a ?_)
 simp only [go_sem,seval]
 (refine W.c1 (hA _) ?_;simp only [go_sem,seval])
 ((try refine W.a ?_);simp only [go_sem,seval,bne])
 refine W.no rfl (W.a ?_)
 simp only [go_sem,seval]
 repeat (first | (refine W.yes rfl ?_;((try refine W.a ?_);simp only [go_sem,seval])) | (refine W.no rfl ?_;((try refine W.a ?_);simp only [go_sem,seval])))
 (refine W.c1 (hG _) ?_;simp only [go_sem,seval])
 ((try refine W.a ?_);simp only [go_sem,seval,bne,kg])
 refine W.yes rfl (W.a ?_)
 simp only [go_sem,seval]
 (refine W.fs (hok) (by simp only [r128,go_sem,seval];rfl) ?_;simp only [resV];try exact V.wk.rfl _)
theorem refc_imp (w0:World) (any:Bool) (v:Int) (gs:List Typ) (t:Typ) {h:Typ} {a b:Typ} (hS:∀ σ,DC Tryz.prog w0 129 [t.v] σ (Same (.tup [h.v,.c (.sl ([a,b].map Typ.cs))]) σ)) (h0:h.k = 0) (hnm':h.name = [61,62]) {R:List Cla × Int} {b2:Typ} (hG:∀ σ,DC Tryz.prog w0 50 [a.v] σ (Same (I 0) σ)) (hN:∀ σ,DC Tryz.prog w0 225 [(andsM gs).v,B (hvB gs),a.v] σ (Same b2.v σ))
  (hR:RcOk w0 [b.v,I v,b2.v,B true,B any] R):RcOk w0 [t.v,I v,(andsM gs).v,B (hvB gs),B any] R:=by
 have hL:=fun σ=>ref11_Logical w0 h.name σ
 have hA:=fun σ=>ref13_Args w0 h.name σ
 rw [hnm'] at hL hA
 rw [show logicalB [61,62] = true by decide] at hL
 rw [show argsM [61,62] = 2 by decide] at hA
 obtain ⟨hk,hnm,hnn,hll⟩:=h
 simp only [tk_mk,tname_mk] at h0 hnm'
 subst h0 hnm'
 simp only [List.map_cons,List.map_nil] at hS
 generalize andsM gs = bd at *
 generalize hvB gs = hv at *
 have hw:=nat0
 obtain ⟨x,X,hK,hback⟩:=hR.gen
 refine hback _ (fun σ=>?_)
 generalize R.2 = RE at *
 refine k128.goN rfl (fun hok hsz=>?_)
 ((try refine W.a ?_);simp only [go_sem,seval,c128])
 (refine W.c1 (hS _) ?_;simp only [go_sem,seval])
 ((try refine W.a ?_);simp only [go_sem,seval,bne])
 refine W.no rfl (W.a ?_)
 simp only [go_sem,seval,bne]
 refine W.no rfl (W.a ?_)
 simp only [go_sem,seval]
 (refine W.c1 (hL _) ?_;simp only [go_sem,seval])
 ((try refine W.a ?_);simp only [go_sem,seval])
 refine W.no rfl (W.a ?_)
 simp only [go_sem,seval]
 (refine W.c1 (hA _) ?_;simp only [go_sem,seval])
 ((try refine W.a ?_);simp only [go_sem,seval,bne])
 refine W.no rfl (W.a ?_)
 simp only [go_sem,seval]
 repeat (first | (refine W.yes rfl ?_;((try refine W.a ?_);simp only [go_sem,seval])) | (refine W.no rfl ?_;((try refine W.a ?_);simp only [go_sem,seval])))
 (refine W.c1 (hG _) ?_;simp only [go_sem,seval])
 ((try refine W.a ?_);simp only [go_sem,seval,bne])
 refine W.no rfl (W.a ?_)
 simp only [go_sem,seval]
 apply W.dregE (List.cons_ne_nil _ _)
 case hc=>
  (apply CanonE.advPO;simp only [go_sem,seval,nat0,hw])
  (apply CanonE.call (hN _);(case hg=>rfl);(case hf=>rfl);(case ha=>first | rfl | simp))
  (apply CanonE.advPO;simp only [go_sem,seval,hw])
  (apply CanonE.call (hK _);(case hg=>rfl);(case hf=>rfl);(case ha=>first | rfl | simp))
  (apply CanonE.advPO;simp only [go_sem,seval,hw])
  exact CanonE.nil
 ((try refine W.a ?_);simp only [go_sem,seval])
 refine W.ret ⟨_,_,(by simp only [resEval,r128,go_sem,seval];rfl),.rfl _,?_⟩
 exact ⟨[_,_,_,_,_],rfl,rfl⟩
end
section
attribute [local go_sem] Typ.v Typ.cs_eq tk_mk tname_mk tn_mk tl_mk tysC
theorem refg_flex (w0:World) (t:Typ) {h:Typ} {l:List Typ} (hS:∀ σ,DC Tryz.prog w0 129 [t.v] σ (Same (.tup [h.v,.c (.sl (l.map Typ.cs))]) σ)) (hk:h.k = 4 ∨ h.k = 3) (σ:H):DC Tryz.prog w0 50 [t.v] σ (Same (I 133) σ):=by
 refine k50.go rfl (fun hok hsz=>?_)
 by_cases h4:h.k = 4
 ·have k4:(h.k == 4) = true:=by simp [h4]
  clear h4 hk
  ((try refine W.a ?_);simp only [go_sem,seval,c50])
  (refine W.c1 (hS _) ?_;simp only [go_sem,seval])
  ((try refine W.a ?_);simp only [go_sem,seval,k4])
  refine W.yes rfl (W.a ?_);simp only [go_sem,seval]
  (refine W.fs (hok) (by simp only [r50,go_sem,seval];rfl) ?_;simp only [resV];try exact V.wk.rfl _)
 ·have k4:(h.k == 4) = false:=by simp [h4]
  have k3:(h.k == 3) = true:=by simp;omega
  clear h4 hk
  ((try refine W.a ?_);simp only [go_sem,seval,c50])
  (refine W.c1 (hS _) ?_;simp only [go_sem,seval])
  ((try refine W.a ?_);simp only [go_sem,seval,k4,k3])
  refine W.yes rfl (W.a ?_);simp only [go_sem,seval]
  (refine W.fs (hok) (by simp only [r50,go_sem,seval];rfl) ?_;simp only [resV];try exact V.wk.rfl _)
theorem refg_shape (w0:World) (t:Typ) {h:Typ} {l:List Typ} (hS:∀ σ,DC Tryz.prog w0 129 [t.v] σ (Same (.tup [h.v,.c (.sl (l.map Typ.cs))]) σ)) (hk:h.k ≠ 4 ∧ h.k ≠ 3 ∧ h.k ≠ 0) (σ:H):DC Tryz.prog w0 50 [t.v] σ (Same (I 130) σ):=by
 refine k50.go rfl (fun hok hsz=>?_)
 have k4:(h.k == 4) = false:=by simp [hk.1]
 have k3:(h.k == 3) = false:=by simp [hk.2.1]
 have k0:(h.k == 0) = false:=by simp [hk.2.2]
 clear hk
 ((try refine W.a ?_);simp only [go_sem,seval,c50])
 (refine W.c1 (hS _) ?_;simp only [go_sem,seval])
 ((try refine W.a ?_);simp only [go_sem,seval,k4,k3])
 refine W.no rfl (W.a ?_)
 simp only [go_sem,seval,bne,k0]
 refine W.yes rfl (W.a ?_)
 simp only [go_sem,seval]
 (refine W.fs (hok) (by simp only [r50,go_sem,seval];rfl) ?_;simp only [resV];try exact V.wk.rfl _)
theorem refg_leaf (w0:World) (t:Typ) {h:Typ} {l:List Typ} (hS:∀ σ,DC Tryz.prog w0 129 [t.v] σ (Same (.tup [h.v,.c (.sl (l.map Typ.cs))]) σ)) (h0:h.k = 0) (hlg:logicalB h.name = false) (σ:H):DC Tryz.prog w0 50 [t.v] σ (Same (I 0) σ):=by
 refine k50.go rfl (fun hok hsz=>?_)
 have k4:(h.k == 4) = false:=by simp [h0]
 have k3:(h.k == 3) = false:=by simp [h0]
 have k0:(h.k == 0) = true:=by simp [h0]
 have hL:=fun σ=>ref11_Logical w0 h.name σ
 rw [hlg] at hL
 have hA:=fun σ=>ref13_Args w0 h.name σ
 clear h0 hlg
 ((try refine W.a ?_);simp only [go_sem,seval,c50])
 (refine W.c1 (hS _) ?_;simp only [go_sem,seval])
 ((try refine W.a ?_);simp only [go_sem,seval,k4,k3])
 refine W.no rfl (W.a ?_)
 simp only [go_sem,seval,bne,k0]
 refine W.no rfl (W.a ?_)
 simp only [go_sem,seval]
 (refine W.c1 (hL _) ?_;simp only [go_sem,seval])
 ((try refine W.a ?_);simp only [go_sem,seval])
 refine W.yes rfl (W.a ?_)
 simp only [go_sem,seval]
 (refine W.fs (hok) (by simp only [r50,go_sem,seval];rfl) ?_;simp only [resV];try exact V.wk.rfl _)
theorem refg_args (w0:World) (t:Typ) {h:Typ} {l:List Typ} (hS:∀ σ,DC Tryz.prog w0 129 [t.v] σ (Same (.tup [h.v,.c (.sl (l.map Typ.cs))]) σ)) (h0:h.k = 0) (hlg:logicalB h.name = true) (hl:(l.length:Int) ≠ argsM h.name ∨ h.name = [58,45]) (σ:H):DC Tryz.prog w0 50 [t.v] σ (Same (I 130) σ):=by
 refine k50.go rfl (fun hok hsz=>?_)
 have k4:(h.k == 4) = false:=by simp [h0]
 have k3:(h.k == 3) = false:=by simp [h0]
 have k0:(h.k == 0) = true:=by simp [h0]
 have hL:=fun σ=>ref11_Logical w0 h.name σ
 rw [hlg] at hL
 have hA:=fun σ=>ref13_Args w0 h.name σ
 by_cases he:(l.length:Int) = argsM h.name
 ·have ka:((l.length:Int) == argsM h.name) = true:=by simp [he]
  have kn:(h.name == [58,45]) = true:=by simpa using hl.resolve_left (fun e=>e he)
  clear hl h0 hlg he
  ((try refine W.a ?_);simp only [go_sem,seval,c50])
  (refine W.c1 (hS _) ?_;simp only [go_sem,seval])
  ((try refine W.a ?_);simp only [go_sem,seval,k4,k3])
  refine W.no rfl (W.a ?_);simp only [go_sem,seval,bne,k0];refine W.no rfl (W.a ?_);simp only [go_sem,seval]
  (refine W.c1 (hL _) ?_;simp only [go_sem,seval])
  ((try refine W.a ?_);simp only [go_sem,seval])
  refine W.no rfl (W.a ?_);simp only [go_sem,seval]
  (refine W.c1 (hA _) ?_;simp only [go_sem,seval])
  ((try refine W.a ?_);simp only [go_sem,seval,bne,ka,kn])
  refine W.yes rfl (W.a ?_);simp only [go_sem,seval]
  (refine W.fs (hok) (by simp only [r50,go_sem,seval];rfl) ?_;simp only [resV];try exact V.wk.rfl _)
 ·have ka:((l.length:Int) == argsM h.name) = false:=by simp [he]
  clear hl h0 hlg he
  ((try refine W.a ?_);simp only [go_sem,seval,c50])
  (refine W.c1 (hS _) ?_;simp only [go_sem,seval])
  ((try refine W.a ?_);simp only [go_sem,seval,k4,k3])
  refine W.no rfl (W.a ?_);simp only [go_sem,seval,bne,k0];refine W.no rfl (W.a ?_);simp only [go_sem,seval]
  (refine W.c1 (hL _) ?_;simp only [go_sem,seval])
  ((try refine W.a ?_);simp only [go_sem,seval])
  refine W.no rfl (W.a ?_);simp only [go_sem,seval]
  (refine W.c1 (hA _) ?_;simp only [go_sem,seval])
  ((try refine W.a ?_);simp only [go_sem,seval,bne,ka])
  refine W.yes rfl (W.a ?_);simp only [go_sem,seval]
  (refine W.fs (hok) (by simp only [r50,go_sem,seval];rfl) ?_;simp only [resV];try exact V.wk.rfl _)
theorem refg_other (w0:World) (t:Typ) {h:Typ} {l:List Typ} (hS:∀ σ,DC Tryz.prog w0 129 [t.v] σ (Same (.tup [h.v,.c (.sl (l.map Typ.cs))]) σ)) (h0:h.k = 0) (hlg:logicalB h.name = true) (hl:(l.length:Int) = argsM h.name) (hn:h.name ≠ [58,45] ∧ h.name ≠ [44] ∧ h.name ≠ [59] ∧ h.name ≠ [61,62] ∧ h.name ≠ [112,105] ∧ h.name ≠ [115,105,103,109,97]) (σ:H):DC Tryz.prog w0 50 [t.v] σ (Same (I 0) σ):=by
 refine k50.go rfl (fun hok hsz=>?_)
 have k4:(h.k == 4) = false:=by simp [h0]
 have k3:(h.k == 3) = false:=by simp [h0]
 have k0:(h.k == 0) = true:=by simp [h0]
 have hL:=fun σ=>ref11_Logical w0 h.name σ
 rw [hlg] at hL
 have hA:=fun σ=>ref13_Args w0 h.name σ
 have ka:((l.length:Int) == argsM h.name) = true:=by simp [hl]
 obtain ⟨n1,n2,n3,n4,n5,n6⟩:=hn
 have n1:(h.name == [58,45]) = false:=by simpa using n1
 have n2:(h.name == [44]) = false:=by simpa using n2
 have n3:(h.name == [59]) = false:=by simpa using n3
 have n4:(h.name == [61,62]) = false:=by simpa using n4
 have n5:(h.name == [112,105]) = false:=by simpa using n5
 have n6:(h.name == [115,105,103,109,97]) = false:=by simpa using n6
 clear hl h0 hlg
 ((try refine W.a ?_);simp only [go_sem,seval,c50])
 (refine W.c1 (hS _) ?_;simp only [go_sem,seval])
 ((try refine W.a ?_);simp only [go_sem,seval,k4,k3])
 refine W.no rfl (W.a ?_)
 simp only [go_sem,seval,bne,k0]
 refine W.no rfl (W.a ?_)
 simp only [go_sem,seval]
 (refine W.c1 (hL _) ?_;simp only [go_sem,seval])
 ((try refine W.a ?_);simp only [go_sem,seval])
 refine W.no rfl (W.a ?_)
 simp only [go_sem,seval]
 (refine W.c1 (hA _) ?_;simp only [go_sem,seval])
 ((try refine W.a ?_);simp only [go_sem,seval,bne,ka,n1,n2,n3,n4,n5,n6])
 repeat (refine W.no rfl ?_;((try refine W.a ?_);simp only [go_sem,seval,n1,n2,n3,n4,n5,n6]))
 (refine W.fs (hok) (by simp only [r50,go_sem,seval];rfl) ?_;simp only [resV];try exact V.wk.rfl _)
theorem refg_and (w0:World) (t:Typ) {h:Typ} {a b:Typ} (hS:∀ σ,DC Tryz.prog w0 129 [t.v] σ (Same (.tup [h.v,.c (.sl ([a,b].map Typ.cs))]) σ)) (h0:h.k = 0) (hnm':h.name = [44]) {ea eb:Int} (ha:∀ σ,DC Tryz.prog w0 50 [a.v] σ (Same (I ea) σ)) (hb:∀ σ,DC Tryz.prog w0 50 [b.v] σ (Same (I eb) σ)) (σ:H):DC Tryz.prog w0 50 [t.v] σ (Same (I (if ea ≠ 0 then ea else eb)) σ):=by
 have q1:(([44]:Str) == [59]) = false:=by decide
 have q2:(([44]:Str) == [61,62]) = false:=by decide
 have q3:(([44]:Str) == [112,105]) = false:=by decide
 have q4:(([44]:Str) == [115,105,103,109,97]) = false:=by decide
 have q5:(([44]:Str) == [58,45]) = false:=by decide
 have hL:=fun σ=>ref11_Logical w0 h.name σ
 have hA:=fun σ=>ref13_Args w0 h.name σ
 rw [hnm'] at hL hA
 rw [show logicalB [44] = true by decide] at hL
 rw [show argsM [44] = 2 by decide] at hA
 obtain ⟨hk,hnm,hnn,hll⟩:=h
 simp only [tk_mk,tname_mk] at h0 hnm'
 subst h0 hnm'
 simp only [List.map_cons,List.map_nil] at hS
 refine k50.go rfl (fun hok hsz=>?_)
 ((try refine W.a ?_);simp only [go_sem,seval,c50])
 (refine W.c1 (hS _) ?_;simp only [go_sem,seval])
 ((try refine W.a ?_);simp only [go_sem,seval,bne,q1,q2,q3,q4,q5])
 refine W.no rfl (W.a ?_)
 simp only [go_sem,seval,bne,q1,q2,q3,q4,q5]
 refine W.no rfl (W.a ?_)
 simp only [go_sem,seval,q1,q2,q3,q4,q5]
 (refine W.c1 (hL _) ?_;simp only [go_sem,seval])
 ((try refine W.a ?_);simp only [go_sem,seval,q1,q2,q3,q4,q5])
 refine W.no rfl (W.a ?_)
 simp only [go_sem,seval,q1,q2,q3,q4,q5]
 (refine W.c1 (hA _) ?_;simp only [go_sem,seval])
 ((try refine W.a ?_);simp only [go_sem,seval,bne,q1,q2,q3,q4,q5])
 refine W.no rfl (W.a ?_)
 simp only [go_sem,seval,nat0,q1,q2,q3,q4,q5]
 repeat (first | (refine W.yes rfl ?_;((try refine W.a ?_);simp only [go_sem,seval,nat0,q1,q2,q3,q4,q5])) | (refine W.no rfl ?_;((try refine W.a ?_);simp only [go_sem,seval,nat0,q1,q2,q3,q4,q5])))
 (refine W.c1 (ha _) ?_;simp only [go_sem,seval])
 by_cases he:ea = 0
 ·have ke:(ea == 0) = true:=by simp [he]
  rw [if_neg (fun e=>e he)]
  clear he
  ((try refine W.a ?_);simp only [go_sem,seval,bne,ke])
  refine W.no rfl (W.a ?_);simp only [go_sem,seval,nat0]
  (refine W.c1 (hb _) ?_;simp only [go_sem,seval])
  ((try refine W.a ?_);simp only [go_sem,seval])
  (refine W.fs (hok) (by simp only [r50,go_sem,seval];rfl) ?_;simp only [resV];try exact V.wk.rfl _)
 ·have ke:(ea == 0) = false:=by simp [he]
  rw [if_pos he];clear he
  ((try refine W.a ?_);simp only [go_sem,seval,bne,ke])
  refine W.yes rfl (W.a ?_);simp only [go_sem,seval]
  (refine W.fs (hok) (by simp only [r50,go_sem,seval];rfl) ?_;simp only [resV];try exact V.wk.rfl _)
theorem refg_or (w0:World) (t:Typ) {h:Typ} {a b:Typ} (hS:∀ σ,DC Tryz.prog w0 129 [t.v] σ (Same (.tup [h.v,.c (.sl ([a,b].map Typ.cs))]) σ)) (h0:h.k = 0) (hnm':h.name = [59]) {ea eb:Int} (ha:∀ σ,DC Tryz.prog w0 50 [a.v] σ (Same (I ea) σ)) (hb:∀ σ,DC Tryz.prog w0 50 [b.v] σ (Same (I eb) σ)) (σ:H):DC Tryz.prog w0 50 [t.v] σ (Same (I (if ea ≠ 0 then ea else eb)) σ):=by
 have q0:(([59]:Str) == [44]) = false:=by decide
 have q2:(([59]:Str) == [61,62]) = false:=by decide
 have q3:(([59]:Str) == [112,105]) = false:=by decide
 have q4:(([59]:Str) == [115,105,103,109,97]) = false:=by decide
 have q5:(([59]:Str) == [58,45]) = false:=by decide
 have hL:=fun σ=>ref11_Logical w0 h.name σ
 have hA:=fun σ=>ref13_Args w0 h.name σ
 rw [hnm'] at hL hA
 rw [show logicalB [59] = true by decide] at hL
 rw [show argsM [59] = 2 by decide] at hA
 obtain ⟨hk,hnm,hnn,hll⟩:=h
 simp only [tk_mk,tname_mk] at h0 hnm'
 subst h0 hnm'
 simp only [List.map_cons,List.map_nil] at hS
 refine k50.go rfl (fun hok hsz=>?_)
 ((try refine W.a ?_);simp only [go_sem,seval,c50])
 (refine W.c1 (hS _) ?_;simp only [go_sem,seval])
 ((try refine W.a ?_);simp only [go_sem,seval,bne,q0,q2,q3,q4,q5])
 refine W.no rfl (W.a ?_)
 simp only [go_sem,seval,bne,q0,q2,q3,q4,q5]
 refine W.no rfl (W.a ?_)
 simp only [go_sem,seval,q0,q2,q3,q4,q5]
 (refine W.c1 (hL _) ?_;simp only [go_sem,seval])
 ((try refine W.a ?_);simp only [go_sem,seval,q0,q2,q3,q4,q5])
 refine W.no rfl (W.a ?_)
 simp only [go_sem,seval,q0,q2,q3,q4,q5]
 (refine W.c1 (hA _) ?_;simp only [go_sem,seval])
 ((try refine W.a ?_);simp only [go_sem,seval,bne,q0,q2,q3,q4,q5])
 refine W.no rfl (W.a ?_)
 simp only [go_sem,seval,nat0,q0,q2,q3,q4,q5]
 repeat (first | (refine W.yes rfl ?_;((try refine W.a ?_);simp only [go_sem,seval,nat0,q0,q2,q3,q4,q5])) | (refine W.no rfl ?_;((try refine W.a ?_);simp only [go_sem,seval,nat0,q0,q2,q3,q4,q5])))
 (refine W.c1 (ha _) ?_;simp only [go_sem,seval])
 by_cases he:ea = 0
 ·have ke:(ea == 0) = true:=by simp [he]
  rw [if_neg (fun e=>e he)]
  clear he
  ((try refine W.a ?_);simp only [go_sem,seval,bne,ke])
  refine W.no rfl (W.a ?_);simp only [go_sem,seval,nat0]
  (refine W.c1 (hb _) ?_;simp only [go_sem,seval])
  ((try refine W.a ?_);simp only [go_sem,seval])
  (refine W.fs (hok) (by simp only [r50,go_sem,seval];rfl) ?_;simp only [resV];try exact V.wk.rfl _)
 ·have ke:(ea == 0) = false:=by simp [he]
  rw [if_pos he];clear he
  ((try refine W.a ?_);simp only [go_sem,seval,bne,ke])
  refine W.yes rfl (W.a ?_);simp only [go_sem,seval]
  (refine W.fs (hok) (by simp only [r50,go_sem,seval];rfl) ?_;simp only [resV];try exact V.wk.rfl _)
theorem refg_imp (w0:World) (t:Typ) {h:Typ} {a b:Typ} (hS:∀ σ,DC Tryz.prog w0 129 [t.v] σ (Same (.tup [h.v,.c (.sl ([a,b].map Typ.cs))]) σ)) (h0:h.k = 0) (hnm':h.name = [61,62]) {ea eb:Int} {rows:List (List C)} (ha:∀ σ,DC Tryz.prog w0 49 [a.v] σ (Same (.tup [.c (.sl rows),I ea]) σ)) (hb:∀ σ,DC Tryz.prog w0 50 [b.v] σ (Same (I eb) σ)) (σ:H):DC Tryz.prog w0 50 [t.v] σ (Same (I (if ea ≠ 0 then ea else eb)) σ):=by
 have q0:(([61,62]:Str) == [44]) = false:=by decide
 have q1:(([61,62]:Str) == [59]) = false:=by decide
 have q3:(([61,62]:Str) == [112,105]) = false:=by decide
 have q4:(([61,62]:Str) == [115,105,103,109,97]) = false:=by decide
 have q5:(([61,62]:Str) == [58,45]) = false:=by decide
 have hL:=fun σ=>ref11_Logical w0 h.name σ
 have hA:=fun σ=>ref13_Args w0 h.name σ
 rw [hnm'] at hL hA
 rw [show logicalB [61,62] = true by decide] at hL
 rw [show argsM [61,62] = 2 by decide] at hA
 obtain ⟨hk,hnm,hnn,hll⟩:=h
 simp only [tk_mk,tname_mk] at h0 hnm'
 subst h0 hnm'
 simp only [List.map_cons,List.map_nil] at hS
 refine k50.go rfl (fun hok hsz=>?_)
 ((try refine W.a ?_);simp only [go_sem,seval,c50])
 (refine W.c1 (hS _) ?_;simp only [go_sem,seval])
 ((try refine W.a ?_);simp only [go_sem,seval,bne,q0,q1,q3,q4,q5])
 refine W.no rfl (W.a ?_)
 simp only [go_sem,seval,bne,q0,q1,q3,q4,q5]
 refine W.no rfl (W.a ?_)
 simp only [go_sem,seval,q0,q1,q3,q4,q5]
 (refine W.c1 (hL _) ?_;simp only [go_sem,seval])
 ((try refine W.a ?_);simp only [go_sem,seval,q0,q1,q3,q4,q5])
 refine W.no rfl (W.a ?_)
 simp only [go_sem,seval,q0,q1,q3,q4,q5]
 (refine W.c1 (hA _) ?_;simp only [go_sem,seval])
 ((try refine W.a ?_);simp only [go_sem,seval,bne,q0,q1,q3,q4,q5])
 refine W.no rfl (W.a ?_)
 simp only [go_sem,seval,nat0,q0,q1,q3,q4,q5]
 repeat (first | (refine W.yes rfl ?_;((try refine W.a ?_);simp only [go_sem,seval,nat0,q0,q1,q3,q4,q5])) | (refine W.no rfl ?_;((try refine W.a ?_);simp only [go_sem,seval,nat0,q0,q1,q3,q4,q5])))
 (refine W.c1 (ha _) ?_;simp only [go_sem,seval])
 by_cases he:ea = 0
 ·have ke:(ea == 0) = true:=by simp [he]
  rw [if_neg (fun e=>e he)]
  clear he
  ((try refine W.a ?_);simp only [go_sem,seval,bne,ke])
  refine W.no rfl (W.a ?_);simp only [go_sem,seval,nat0]
  (refine W.c1 (hb _) ?_;simp only [go_sem,seval])
  ((try refine W.a ?_);simp only [go_sem,seval])
  (refine W.fs (hok) (by simp only [r50,go_sem,seval];rfl) ?_;simp only [resV];try exact V.wk.rfl _)
 ·have ke:(ea == 0) = false:=by simp [he]
  rw [if_pos he];clear he
  ((try refine W.a ?_);simp only [go_sem,seval,bne,ke])
  refine W.yes rfl (W.a ?_);simp only [go_sem,seval]
  (refine W.fs (hok) (by simp only [r50,go_sem,seval];rfl) ?_;simp only [resV];try exact V.wk.rfl _)
theorem refg_pi (w0:World) (t:Typ) {h:Typ} {a:Typ} (hS:∀ σ,DC Tryz.prog w0 129 [t.v] σ (Same (.tup [h.v,.c (.sl ([a].map Typ.cs))]) σ)) (h0:h.k = 0) (hnm':h.name = [112,105]) {ba:Typ} {e:Int} (hB:∀ σ,DC Tryz.prog w0 132 [a.v] σ (Same ba.v σ)) (hb:∀ σ,DC Tryz.prog w0 50 [ba.v] σ (Same (I e) σ)) (σ:H):DC Tryz.prog w0 50 [t.v] σ (Same (I e) σ):=by
 have q0:(([112,105]:Str) == [44]) = false:=by decide
 have q1:(([112,105]:Str) == [59]) = false:=by decide
 have q2:(([112,105]:Str) == [61,62]) = false:=by decide
 have q4:(([112,105]:Str) == [115,105,103,109,97]) = false:=by decide
 have q5:(([112,105]:Str) == [58,45]) = false:=by decide
 have hL:=fun σ=>ref11_Logical w0 h.name σ
 have hA:=fun σ=>ref13_Args w0 h.name σ
 rw [hnm'] at hL hA
 rw [show logicalB [112,105] = true by decide] at hL
 rw [show argsM [112,105] = 1 by decide] at hA
 obtain ⟨hk,hnm,hnn,hll⟩:=h
 simp only [tk_mk,tname_mk] at h0 hnm'
 subst h0 hnm'
 simp only [List.map_cons,List.map_nil] at hS
 refine k50.go rfl (fun hok hsz=>?_)
 ((try refine W.a ?_);simp only [go_sem,seval,c50])
 (refine W.c1 (hS _) ?_;simp only [go_sem,seval])
 ((try refine W.a ?_);simp only [go_sem,seval,bne,q0,q1,q2,q4,q5])
 refine W.no rfl (W.a ?_)
 simp only [go_sem,seval,bne,q0,q1,q2,q4,q5]
 refine W.no rfl (W.a ?_)
 simp only [go_sem,seval,q0,q1,q2,q4,q5]
 (refine W.c1 (hL _) ?_;simp only [go_sem,seval])
 ((try refine W.a ?_);simp only [go_sem,seval,q0,q1,q2,q4,q5])
 refine W.no rfl (W.a ?_)
 simp only [go_sem,seval,q0,q1,q2,q4,q5]
 (refine W.c1 (hA _) ?_;simp only [go_sem,seval])
 ((try refine W.a ?_);simp only [go_sem,seval,bne,q0,q1,q2,q4,q5])
 refine W.no rfl (W.a ?_)
 simp only [go_sem,seval,nat0,q0,q1,q2,q4,q5]
 repeat (first | (refine W.yes rfl ?_;((try refine W.a ?_);simp only [go_sem,seval,nat0,q0,q1,q2,q4,q5])) | (refine W.no rfl ?_;((try refine W.a ?_);simp only [go_sem,seval,nat0,q0,q1,q2,q4,q5])))
 (refine W.c1 (hB _) ?_;simp only [go_sem,seval])
 ((try refine W.a ?_);simp only [go_sem,seval])
 (refine W.c1 (hb _) ?_;simp only [go_sem,seval])
 ((try refine W.a ?_);simp only [go_sem,seval])
 (refine W.fs (hok) (by simp only [r50,go_sem,seval];rfl) ?_;simp only [resV];try exact V.wk.rfl _)
theorem refg_sig (w0:World) (t:Typ) {h:Typ} {a:Typ} (hS:∀ σ,DC Tryz.prog w0 129 [t.v] σ (Same (.tup [h.v,.c (.sl ([a].map Typ.cs))]) σ)) (h0:h.k = 0) (hnm':h.name = [115,105,103,109,97]) {ba:Typ} {e:Int} (hB:∀ σ,DC Tryz.prog w0 132 [a.v] σ (Same ba.v σ)) (hb:∀ σ,DC Tryz.prog w0 50 [ba.v] σ (Same (I e) σ)) (σ:H):DC Tryz.prog w0 50 [t.v] σ (Same (I e) σ):=by
 have q0:(([115,105,103,109,97]:Str) == [44]) = false:=by decide
 have q1:(([115,105,103,109,97]:Str) == [59]) = false:=by decide
 have q2:(([115,105,103,109,97]:Str) == [61,62]) = false:=by decide
 have q3:(([115,105,103,109,97]:Str) == [112,105]) = false:=by decide
 have q5:(([115,105,103,109,97]:Str) == [58,45]) = false:=by decide
 have hL:=fun σ=>ref11_Logical w0 h.name σ
 have hA:=fun σ=>ref13_Args w0 h.name σ
 rw [hnm'] at hL hA
 rw [show logicalB [115,105,103,109,97] = true by decide] at hL
 rw [show argsM [115,105,103,109,97] = 1 by decide] at hA
 obtain ⟨hk,hnm,hnn,hll⟩:=h
 simp only [tk_mk,tname_mk] at h0 hnm'
 subst h0 hnm'
 simp only [List.map_cons,List.map_nil] at hS
 refine k50.go rfl (fun hok hsz=>?_)
 ((try refine W.a ?_);simp only [go_sem,seval,c50])
 (refine W.c1 (hS _) ?_;simp only [go_sem,seval])
 ((try refine W.a ?_);simp only [go_sem,seval,bne,q0,q1,q2,q3,q5])
 refine W.no rfl (W.a ?_)
 simp only [go_sem,seval,bne,q0,q1,q2,q3,q5]
 refine W.no rfl (W.a ?_)
 simp only [go_sem,seval,q0,q1,q2,q3,q5]
 (refine W.c1 (hL _) ?_;simp only [go_sem,seval])
 ((try refine W.a ?_);simp only [go_sem,seval,q0,q1,q2,q3,q5])
 refine W.no rfl (W.a ?_)
 simp only [go_sem,seval,q0,q1,q2,q3,q5]
 (refine W.c1 (hA _) ?_;simp only [go_sem,seval])
 ((try refine W.a ?_);simp only [go_sem,seval,bne,q0,q1,q2,q3,q5])
 refine W.no rfl (W.a ?_)
 simp only [go_sem,seval,nat0,q0,q1,q2,q3,q5]
 repeat (first | (refine W.yes rfl ?_;((try refine W.a ?_);simp only [go_sem,seval,nat0,q0,q1,q2,q3,q5])) | (refine W.no rfl ?_;((try refine W.a ?_);simp only [go_sem,seval,nat0,q0,q1,q2,q3,q5])))
 (refine W.c1 (hB _) ?_;simp only [go_sem,seval])
 ((try refine W.a ?_);simp only [go_sem,seval])
 (refine W.c1 (hb _) ?_;simp only [go_sem,seval])
 ((try refine W.a ?_);simp only [go_sem,seval])
 (refine W.fs (hok) (by simp only [r50,go_sem,seval];rfl) ?_;simp only [resV];try exact V.wk.rfl _)
theorem claF_ne:∀ (n:Nat) (any:Bool) (v:Int) (d:Nat) (t:Typ) (gs:List Typ),d + n ≤ 60000 → FitM n d t → ((clF n).2 any v t gs).2 = 0 → ((clF n).2 any v t gs).1 ≠ []
 | 0,any,v,d,t,gs,_,hf=>absurd hf.consts (Nat.not_lt_zero _)
 | n + 1,any,v,d,t,gs,hd',hf=>by
   have ih:=claF_ne n any
   have hnt:=hf.nodes
   show (claS (clF n).1 ((clF n).2 any) any v t gs).2 = 0 → (claS (clF n).1 ((clF n).2 any) any v t gs).1 ≠ []
   rw [claS_T];generalize hsE:shapeM 131 t = s;obtain ⟨nm,l,e⟩:=s;unfold claT;simp only
   by_cases he:¬ e = 0
   ·rw [if_pos he];exact fun h=>absurd h he
   obtain rfl:e = 0:=Decidable.of_not_not he;rw [if_neg he]
   by_cases h0:nm = []
   ·rw [if_pos h0]
    split
    ·exact fun h=>absurd h (by decide)
    ·exact fun _ h=>by cases h
   rw [if_neg h0];obtain ⟨q1,q2,q3,q4,q5,q6⟩:=shape_args hf hsE (by decide) h0
   split
   ·rename_i h;subst h
    obtain ⟨a,b,rfl⟩:=list_two (q1.trans rfl)
    have h1:=ih v d a gs (by omega) (q2 a (by simp)).1
    have ea:([a,b]:List Typ).getD 0 .none = a:=rfl
    rw [ea];split
    ·rename_i hx;exact fun h=>absurd h hx
    ·rename_i hx
     intro _ h;simp only [List.append_eq_nil_iff] at h;exact h1 (Decidable.of_not_not hx) h.1
   split
   ·rename_i h;subst h
    obtain ⟨a,rfl⟩:=list_one (q1.trans rfl);obtain ⟨fa,na⟩:=q2 a (by simp)
    have hb:=bodyM_fit fa (by omega) (by omega)
    exact ih (v + 1) (d + 1) (bodyM a) (gs.map (shiftM 0 1)) (by omega) hb.1
   split
   ·rename_i h;subst h
    obtain ⟨a,b,rfl⟩:=list_two (q1.trans rfl);obtain ⟨fa,na⟩:=q2 a (by simp)
    split
    ·rename_i hx;exact fun h=>absurd h hx
    ·exact ih v d a (gs ++ [([a,b]:List Typ).getD 1 .none]) (by omega) fa
   split
   ·rename_i h;subst h
    obtain ⟨a,b,rfl⟩:=list_two (q1.trans rfl);obtain ⟨fb,nb⟩:=q2 b (by simp)
    split
    ·rename_i hx;exact fun h=>absurd h hx
    ·exact ih v d b (gs ++ [([a,b]:List Typ).getD 0 .none]) (by omega) fb
   exact fun h=>absurd h (by decide)
theorem ref13_Clauses (w0:World) {t:Typ} {R:List Cla × Int} (h:RcOk w0 [t.v,I 0,(andsM []).v,B (hvB []),B false] R) (σ:H):DC Tryz.prog w0 49 [t.v] σ (Same (.tup [.c (.sl ((erR R).1.map Cla.cs)),I R.2]) σ):=by
 refine k49.go rfl (fun hok hsz=>?_)
 have hC:=h.any
 have ez:(andsM []).v = .agg [I 0,S [],I 0,.c (.sl [])]:=rfl
 have eh:hvB [] = false:=rfl
 rw [ez,eh] at hC
 generalize (erR R).1.map Cla.cs = RR at *
 generalize R.2 = RE at *
 ((try refine W.a ?_);simp only [go_sem,seval,c49])
 (refine W.c1w (hC _) ?_;simp only [go_sem,seval])
 ((try refine W.a ?_);simp only [go_sem,seval])
 (refine W.fs (hok) (by simp only [r49,go_sem,seval];rfl) ?_;simp only [resV];try exact V.wk.rfl _)
theorem ref13_Parts (w0:World) {t:Typ} {R:List Cla × Int} (h:RcOk w0 [t.v,I 0,(andsM []).v,B (hvB []),B true] R) (σ:H):DC Tryz.prog w0 48 [t.v] σ (Same (.tup [.c (.sl ((erR R).1.map Cla.cs)),I R.2]) σ):=by
 refine k48.go rfl (fun hok hsz=>?_)
 have hC:=h.any
 have ez:(andsM []).v = .agg [I 0,S [],I 0,.c (.sl [])]:=rfl
 have eh:hvB [] = false:=rfl
 rw [ez,eh] at hC
 generalize (erR R).1.map Cla.cs = RR at *
 generalize R.2 = RE at *
 ((try refine W.a ?_);simp only [go_sem,seval,c48])
 (refine W.c1w (hC _) ?_;simp only [go_sem,seval])
 ((try refine W.a ?_);simp only [go_sem,seval])
 (refine W.fs (hok) (by simp only [r48,go_sem,seval];rfl) ?_;simp only [resV];try exact V.wk.rfl _)
theorem ref13_Top (w0:World) {t z:Typ} {n:Int} {R:List Cla × Int} (hAb:∀ σ,DC Tryz.prog w0 133 [t.v,I n,I 0] σ (Same z.v σ)) (h:RcOk w0 [z.v,I n,(andsM []).v,B (hvB []),B false] R) (σ:H):DC Tryz.prog w0 51 [t.v,I n] σ (Same (.tup [.c (.sl ((erR R).1.map Cla.cs)),I R.2]) σ):=by
 refine k51.go rfl (fun hok hsz=>?_)
 have hC:=h.any
 have ez:(andsM []).v = .agg [I 0,S [],I 0,.c (.sl [])]:=rfl
 have eh:hvB [] = false:=rfl
 rw [ez,eh] at hC
 generalize (erR R).1.map Cla.cs = RR at *
 generalize R.2 = RE at *
 ((try refine W.a ?_);simp only [go_sem,seval,c51])
 (refine W.c1 (hAb _) ?_;simp only [go_sem,seval])
 ((try refine W.a ?_);simp only [go_sem,seval])
 (refine W.c1w (hC _) ?_;simp only [go_sem,seval])
 ((try refine W.a ?_);simp only [go_sem,seval])
 (refine W.fs (hok) (by simp only [r51,go_sem,seval];rfl) ?_;simp only [resV];try exact V.wk.rfl _)
theorem ref_each (w0:World):∀ n:Nat,n ≤ 1000 → (∀ d t,d + n ≤ 50000 → FitM n d t → ∀ σ,DC Tryz.prog w0 50 [t.v] σ (Same (I ((clF n).1 t)) σ)) ∧
  (∀ any (d:Nat) (v:Int) gs t,d + n ≤ 50000 → FitM n d t → 0 ≤ v → v + n ≤ 100000 → FitG d gs → gs.length + n ≤ 1000 → RcOk w0 [t.v,I v,(andsM gs).v,B (hvB gs),B any] ((clF n).2 any v t gs))
 | 0,_=>⟨fun d t _ hf=>absurd hf.consts (Nat.not_lt_zero _),fun any d v gs t _ hf=>absurd hf.consts (Nat.not_lt_zero _)⟩
 | n + 1,hn=>by
   obtain ⟨hG,hC⟩:=ref_each w0 n (by omega)
   have args2:∀ {d:Nat} {t:Typ},FitM (n + 1) d t → (hd t).k = 0 → ((splitM t).2.length:Int) = argsM (hd t).name → argsM (hd t).name = 2 → ∃ a b,(splitM t).2 = [a,b] ∧ ar t 0 = a ∧ ar t 1 = b ∧ FitM n d a ∧ FitM n d b:=fun {d t} hf h0 hl h2=>by
    obtain ⟨a,b,e⟩:=list_two (l:=(splitM t).2) (by rw [hl,h2])
    have f0:=(args_in hf h0 (fun e=>e hl) (m:=2) h2 0 (by decide)).1
    have f1:=(args_in hf h0 (fun e=>e hl) (m:=2) h2 1 (by decide)).1
    have e0:ar t 0 = a:=by unfold ar;rw [e];rfl
    have e1:ar t 1 = b:=by unfold ar;rw [e];rfl
    rw [e0] at f0;rw [e1] at f1;exact ⟨a,b,e,e0,e1,f0,f1⟩
   have args1:∀ {d:Nat} {t:Typ},FitM (n + 1) d t → d ≤ 60000 → (hd t).k = 0 → ((splitM t).2.length:Int) = argsM (hd t).name → argsM (hd t).name = 1 → ∃ a,(splitM t).2 = [a] ∧ ar t 0 = a ∧ FitM n (d + 1) (bodyM a) ∧ ∀ σ,DC Tryz.prog w0 132 [a.v] σ (Same (bodyM a).v σ):=fun {d t} hf hd' h0 hl h1=>by
    obtain ⟨a,e⟩:=list_one (l:=(splitM t).2) (by rw [hl,h1])
    have f0:=(args_in hf h0 (fun e=>e hl) (m:=1) h1 0 (by decide)).1
    have n0:=arg_nodes hf.valid 0 (by rw [e];simp)
    have e0:ar t 0 = a:=by unfold ar;rw [e];rfl
    rw [e0] at f0 n0
    have:=hf.nodes
    exact ⟨a,e,e0,(bodyM_fit f0 (by omega) (by omega)).1,fun σ=>ref13_Body w0 a f0.valid (by omega) (near_more (by omega) a f0.near) σ⟩
   refine ⟨fun d t hd' hf σ=>?_,fun any d v gs t hd' hf hv0 hv1 hgs hgl=>?_⟩
   ·have hS:=fun σ=>ref13_Split w0 t hf.valid (by have:=hf.nodes;omega) σ
    show DC Tryz.prog w0 50 [t.v] σ (Same (I (goalS (clF n).1 (fun t=>((clF n).2 false 0 t []).2) t)) σ)
    unfold goalS;split
    ·rename_i c1;exact refg_flex w0 t hS c1 σ
    rename_i c1;split
    ·rename_i c2;exact refg_shape w0 t hS ⟨fun e=>c1 (.inl e),fun e=>c1 (.inr e),c2⟩ σ
    rename_i c2
    have h0:(hd t).k = 0:=by omega
    split
    ·rename_i c3;exact refg_leaf w0 t hS h0 c3 σ
    rename_i c3
    have c3:logicalB (hd t).name = true:=by simpa using c3
    split
    ·rename_i c4;exact refg_args w0 t hS h0 c3 (.inl c4) σ
    rename_i c4
    have hl:((splitM t).2.length:Int) = argsM (hd t).name:=by omega
    split
    ·rename_i c5;exact refg_args w0 t hS h0 c3 (.inr c5) σ
    rename_i c5;split
    ·rename_i c6
     obtain ⟨a,b,e,e0,e1,fa,fb⟩:=args2 hf h0 hl (argsM_two (by rcases c6 with h | h <;> simp [h]))
     rw [e0,e1];rw [e] at hS;rcases c6 with h | h
     ·exact refg_and w0 t hS h0 h (fun σ=>hG d a (by omega) fa σ) (fun σ=>hG d b (by omega) fb σ) σ
     ·exact refg_or w0 t hS h0 h (fun σ=>hG d a (by omega) fa σ) (fun σ=>hG d b (by omega) fb σ) σ
    rename_i c6;split
    ·rename_i c7
     obtain ⟨a,b,e,e0,e1,fa,fb⟩:=args2 hf h0 hl (argsM_two (by simp [c7]))
     rw [e0,e1];rw [e] at hS;exact refg_imp w0 t hS h0 c7 (fun σ=>ref13_Clauses w0 (hC false d 0 [] a (by omega) fa (by omega) (by omega) ⟨Nat.zero_le _,fun g hg=>by cases hg⟩ (by simp;omega)) σ) (fun σ=>hG d b (by omega) fb σ) σ
    rename_i c7;split
    ·rename_i c8
     obtain ⟨a,e,e0,fa,hB⟩:=args1 hf (by omega) h0 hl (argsM_one c8)
     rw [e0];rw [e] at hS;rcases c8 with h | h
     ·exact refg_pi w0 t hS h0 h hB (fun σ=>hG (d + 1) (bodyM a) (by omega) fa σ) σ
     ·exact refg_sig w0 t hS h0 h hB (fun σ=>hG (d + 1) (bodyM a) (by omega) fa σ) σ
    rename_i c8;exact refg_other w0 t hS h0 c3 hl ⟨c5,fun e=>c6 (.inl e),fun e=>c6 (.inr e),c7,fun e=>c8 (.inl e),fun e=>c8 (.inr e)⟩ σ
   ·have hS:=fun σ=>ref13_Split w0 t hf.valid (by have:=hf.nodes;omega) σ
    show RcOk w0 _ (claS (clF n).1 ((clF n).2 any) any v t gs)
    unfold claS;split
    ·rename_i c1;exact .of_err (by decide) (refc_flex w0 any v gs t hS c1 _ _ rfl)
    rename_i c1;split
    ·rename_i c2;exact .of_err (by decide) (refc_shape w0 any v gs t hS ⟨fun e=>c1 (.inl e),fun e=>c1 (.inr e),c2⟩ _ _ rfl)
    rename_i c2
    have h0:(hd t).k = 0:=by omega
    split
    ·rename_i c3
     have hlm:=fun u hu=>splitM_mem (t:=t) (u:=u) hf.valid hu
     have hll:=splitM_len hf.valid
     have hlf:=fun σ=>refc_leaf w0 any v gs t hS h0 c3 (by have:=hf.nodes;omega) (fun u hu σ=>by
      have hm:=hlm u hu
      have:=nodesM_mem hm
      exact ref13_Pattern w0 u (valid_kids hf.valid u hm) 0 (by have:=hf.nodes;omega) σ) σ
     split
     ·rename_i c4;exact .of_err (by decide) (fun σ=>(hlf σ).1 c4)
     ·rename_i c4;exact .of_one rfl (Nat.le_refl _) (fun σ=>(hlf σ).2 c4)
    rename_i c3
    have c3:logicalB (hd t).name = true:=by simpa using c3
    split
    ·rename_i c4;exact .of_err (by decide) (refc_args w0 any v gs t hS h0 c3 c4 _ _ rfl)
    rename_i c4
    have hl:((splitM t).2.length:Int) = argsM (hd t).name:=by omega
    split
    ·rename_i c5
     obtain ⟨a,b,e,e0,e1,fa,fb⟩:=args2 hf h0 hl (argsM_two (by simp [c5]))
     rw [e0,e1];rw [e] at hS
     have na:=fa.nodes
     have nb:=fb.nodes
     have la:=claF_len n any v d a gs (by omega) fa
     have lb:=claF_len n any v d b gs (by omega) fb
     exact refc_and w0 any v gs t hS h0 c5 (hC any d v gs a (by omega) fa hv0 (by omega) hgs (by omega)) (hC any d v gs b (by omega) fb hv0 (by omega) hgs (by omega)) (by omega) (by omega) (claF_ne n any v d a gs (by omega) fa) (claF_ne n any v d b gs (by omega) fb)
    rename_i c5;split
    ·rename_i c6
     obtain ⟨a,e,e0,fa,hB⟩:=args1 hf (by omega) h0 hl (argsM_one (by simp [c6]))
     rw [e0];rw [e] at hS
     have hn1:=ands_nodes (l:=gs) (fun u hu=>(hgs.all u hu).2.2)
     have hn2:=ands_near (m:=1099511627776 + d) (by omega) (l:=gs) (fun u hu=>(hgs.all u hu).2.1)
     have hR:=hC any (d + 1) (v + 1) (gs.map (shiftM 0 1)) (bodyM a) (by omega) fa (by omega) (by omega) (hgs.under (by omega)) (by rw [List.length_map];omega)
     rw [hv_map,← shift_ands] at hR;exact refc_pi w0 any v gs t hS h0 c6 ⟨by omega,by omega⟩ hB (fun σ=>ref07_Shift w0 (andsM gs) 0 1 (by decide) (by decide) (by decide) (by decide) (near_more (by omega) _ hn2) (by have:=hgs.len;omega) σ) hR
    rename_i c6
    have two:∀ g:Typ,FitM n d g → ∀ u:Typ,FitM n d u → RcOk w0 [u.v,I v,(andsM (gs ++ [g])).v,B true,B any] ((clF n).2 any v u (gs ++ [g])):=fun g fg u fu=>by
     have:=hC any d v (gs ++ [g]) u (by omega) fu hv0 (by omega) (hgs.snoc fg (by omega)) (by rw [List.length_append,List.length_cons,List.length_nil];omega)
     rwa [hv_snoc] at this
    have hN:∀ g:Typ,∀ σ,DC Tryz.prog w0 225 [(andsM gs).v,B (hvB gs),g.v] σ (Same (andsM (gs ++ [g])).v σ):=fun g σ=>by
     have:=ref13_and w0 (andsM gs) (hvB gs) g σ
     rwa [and_snoc] at this
    split
    ·rename_i c7
     obtain ⟨a,b,e,e0,e1,fa,fb⟩:=args2 hf h0 hl (argsM_two (by simp [c7]))
     rw [e0,e1];rw [e] at hS
     have hg:=fun σ=>hG d b (by omega) fb σ
     split
     ·rename_i c8;exact .of_err c8 (refc_if_no w0 any v gs t hS h0 c7 hg c8 _ _ rfl)
     ·rename_i c8
      rw [Decidable.of_not_not c8] at hg;exact refc_if w0 any v gs t hS h0 c7 hg (hN b) (two b fb a fa)
    rename_i c7;split
    ·rename_i c8
     obtain ⟨a,b,e,e0,e1,fa,fb⟩:=args2 hf h0 hl (argsM_two (by simp [c8]))
     rw [e0,e1];rw [e] at hS
     have hg:=fun σ=>hG d a (by omega) fa σ
     split
     ·rename_i c9;exact .of_err c9 (refc_imp_no w0 any v gs t hS h0 c8 hg c9 _ _ rfl)
     ·rename_i c9
      rw [Decidable.of_not_not c9] at hg;exact refc_imp w0 any v gs t hS h0 c8 hg (hN a) (two a fa b fb)
    rename_i c8;exact .of_err (by decide) (refc_no w0 any v gs t hS h0 c3 hl ⟨c5,c6,c7,c8⟩ _ _ rfl)
end
section
attribute [local go_sem] Typ.v Typ.cs_eq tk_mk tname_mk tn_mk tl_mk
end
end Go.Proofs.YtpcmcfajfnpjeaaGreatDoor
namespace Go.Proofs.YtpcmcfajfnpjeaaGreatDoor
open Go.RowKit Go.Shelf Go.Lamb
attribute [local go_sem] Oper.semAt_some

end Go.Proofs.YtpcmcfajfnpjeaaGreatDoor
namespace Go.Lamb
open Go Go.RowKit
end Go.Lamb
namespace Go.Proofs.YtpcmcfajfnpjeaaGreatDoor
open Go.RowKit Go.Shelf Go.Lamb
attribute [local go_sem] Oper.semAt_some
end Go.Proofs.YtpcmcfajfnpjeaaGreatDoor
namespace Go.Proofs.YtpcmcfajfnpjeaaGreatDoor
open Go.RowKit Go.Shelf Go.Lamb
attribute [local go_sem] Oper.semAt_some
end Go.Proofs.YtpcmcfajfnpjeaaGreatDoor
namespace Go.Proofs.YtpcmcfajfnpjeaaGreatDoor
open Go.RowKit Go.Shelf Go.Lamb
attribute [local go_sem] Oper.semAt_some
end Go.Proofs.YtpcmcfajfnpjeaaGreatDoor
namespace Go.Proofs.YtpcmcfajfnpjeaaGreatDoor
open Go.RowKit Go.Shelf Go.Lamb
end Go.Proofs.YtpcmcfajfnpjeaaGreatDoor
namespace Go.Proofs.YtpcmcfajfnpjeaaGreatDoor
open Go.RowKit Go.Lamb

attribute [local go_sem] advO_skip advO_reg advO_seq advO_block advO_exit advO_endb advO_opsNil advO_ops advG_yes advG_no advG_none advS_some advS_none advO_cond advO_loop advO_dreg advO_ret advO_bad advO_inv advO_nil advO_zero wantedV Lamb.step ev_t ev_k put_some put_none argEnv popTo cellsAt V.cellsV V.rows V.sub V.toC toCs fillV bytesC byteRows appV rowsV boundV boundL binV binInt binStr eqC eqL V.isNil leaves V.leaf Ins.quiet Ins.pure List.getD_cons_zero List.getD_cons_succ List.getD_nil List.all_cons List.all_nil List.length_cons List.length_nil List.take_succ_cons List.take_zero List.drop_succ_cons List.drop_zero List.cons_append List.nil_append List.append_nil List.append_assoc List.map_cons List.map_nil List.getElem?_cons_zero List.getElem?_cons_succ List.length_append List.length_set hget0 hget hset0 hset hsets hgs0 hgs hss0 hss List.set_cons_zero List.set_cons_succ List.forall_mem_cons List.not_mem_nil false_implies implies_true Option.map_some Bool.and_true Bool.true_and Bool.not_not Bool.not_true Bool.not_false Bool.and_self Bool.or_true Bool.true_or Bool.or_false Bool.false_or Bool.and_false Bool.false_and Bool.false_eq_true beq_self_eq_true and_self and_true true_and if_true if_false Nat.zero_add Nat.add_zero Nat.le_refl Int.toNat_natCast decide_true decide_false beq_t beq_f List.length_map List.getElem?_map I S B opsC toksC OpT.v OpT.cs OpT.zero Tok.v Tok.cs Pre.v Pre.cs_eq k_mk name_mk n_mk l_mk pos_mk Pre.app applyL natCast0 natCast1 natCast2 AOp.o AOp.m AOp.f AOp.l AOp.d AOp.n AOp.x AOp.s AOp.k AOp.y AOp.z EOp.q low_c low_void low_any low_csl low_nilf low_ptr low_osl low_agg low_tup low_fn resEval advPO_nil advPO_loud advPO_quiet pL_yes pL_no pLS_some pLS_none pQ_yes pQ_no pQS_some pQS_loud eq_self Nat.sub_zero zK zT zF zS4
def wrC (l:List OpT) (A:V) (v:Nat) (s:List UInt8):Blk:=.cells [.c (opsC l),A,.osl v (byteRows s)] (some 196)
def wrY (s:List UInt8):Blk:=.spare 5 1 s.length
attribute [local go_sem] wrC wrY rs_len rs_g0 rs_g rs_s0 rs_s rs_sv
end Go.Proofs.YtpcmcfajfnpjeaaGreatDoor
namespace Go.Proofs.YtpcmcfajfnpjeaaGreatDoor
open Go.RowKit Go.Lamb
attribute [local go_sem] advO_skip advO_reg advO_seq advO_block advO_exit advO_endb advO_opsNil advO_ops advG_yes advG_no advG_none advS_some advS_none advO_cond advO_loop advO_dreg advO_ret advO_bad advO_inv advO_nil advO_zero wantedV Lamb.step ev_t ev_k put_some put_none argEnv popTo cellsAt V.cellsV V.rows V.sub V.toC toCs fillV bytesC byteRows appV rowsV boundV boundL binV binInt binStr eqC eqL V.isNil leaves V.leaf Ins.quiet Ins.pure List.getD_cons_zero List.getD_cons_succ List.getD_nil List.all_cons List.all_nil List.length_cons List.length_nil List.take_succ_cons List.take_zero List.drop_succ_cons List.drop_zero List.cons_append List.nil_append List.append_nil List.append_assoc List.map_cons List.map_nil List.getElem?_cons_zero List.getElem?_cons_succ List.length_append List.length_set hget0 hget hset0 hset hsets hgs0 hgs hss0 hss List.set_cons_zero List.set_cons_succ List.forall_mem_cons List.not_mem_nil false_implies implies_true Option.map_some Bool.and_true Bool.true_and Bool.not_not Bool.not_true Bool.not_false Bool.and_self Bool.or_true Bool.true_or Bool.or_false Bool.false_or Bool.and_false Bool.false_and Bool.false_eq_true beq_self_eq_true and_self and_true true_and if_true if_false Nat.zero_add Nat.add_zero Nat.le_refl Int.toNat_natCast decide_true decide_false beq_t beq_f List.length_map List.getElem?_map I S B opsC toksC OpT.v OpT.cs OpT.zero Tok.v Tok.cs Pre.v Pre.cs_eq k_mk name_mk n_mk l_mk pos_mk Pre.app applyL natCast0 natCast1 natCast2 AOp.o AOp.m AOp.f AOp.l AOp.d AOp.n AOp.x AOp.s AOp.k AOp.y AOp.z EOp.q low_c low_void low_any low_csl low_nilf low_ptr low_osl low_agg low_tup low_fn resEval advPO_nil advPO_loud advPO_quiet pL_yes pL_no pLS_some pLS_none pQ_yes pQ_no pQS_some pQS_loud eq_self Nat.sub_zero zK zT zF zS4
section
attribute [local go_sem] Typ.v Typ.cs_eq tk_mk tname_mk tn_mk tl_mk tysC KdT.v KdT.cs NmT.v NmT.cs kdsC nmsC Sg.v Sent.v

end
section
attribute [local go_sem] Typ.v Typ.cs_eq tk_mk tname_mk tn_mk tl_mk tysC KdT.v KdT.cs NmT.v NmT.cs kdsC nmsC Sg.v Sent.v strsC

end
end Go.Proofs.YtpcmcfajfnpjeaaGreatDoor
namespace Go.Proofs.YtpcmcfajfnpjeaaGreatDoor
open Go.RowKit Go.Lamb
attribute [local go_sem] Typ.v Typ.cs_eq tk_mk tname_mk tn_mk tl_mk tysC KdT.v KdT.cs NmT.v NmT.cs kdsC nmsC Sg.v Sent.v strsC

def outB (b:Nat) (s:Sg):Blk:=.cells [.osl (b + 1) (s.kinds.map KdT.cs),.osl (b + 2) (s.types.map NmT.cs),.osl (b + 3) (s.ops.map OpT.cs)]
attribute [local go_sem] outB rf_len rf_g0 rf_g rf_t0 rf_t
end Go.Proofs.YtpcmcfajfnpjeaaGreatDoor
namespace Go.Lamb
open Go Go.RowKit
end Go.Lamb
namespace Go.Proofs.YtpcmcfajfnpjeaaGreatDoor
open Go.RowKit Go.Lamb
attribute [local go_sem] Typ.v Typ.cs_eq tk_mk tname_mk tn_mk tl_mk tysC KdT.v KdT.cs NmT.v NmT.cs kdsC nmsC Sg.v Sent.v strsC

end Go.Proofs.YtpcmcfajfnpjeaaGreatDoor
namespace Go.Proofs.YtpcmcfajfnpjeaaGreatDoor
open Go.RowKit Go.Lamb
def c295:AC:=.seq (.reg [.o 2 (.mov (.k (.csl [])))]) (.seq (.reg [.o 3 (.mov (zK 0))]) (.seq (.seq (.reg [.m 9 0,.o 10 (.lenr (.t 9)),.o 11 (.mov (zK 0))]) (.block 0 (.loop (.seq (.reg [.o 12 (.bin .lss (.t 11) (.t 10))]) (.seq (.cond (.t 12) (.skip) (.exit 0)) (.seq (.block 1 (.seq (.reg [.o 13 (.iadd 1 (.t 9) (.t 11)),.l 14 13,.m 5 14]) (.seq (.reg [.m 15 3,.m 16 5,.o 17 (.lenr (.t 16)),.o 18 (.bin .add (.t 15) (.t 17)),.m 3 18]) (.seq (.reg [.m 19 3,.o 20 (.bin .lss (.t 19) (zK 0))]) (.cond (.t 20) (.reg [.o 21 (.bad),⟨none,.bad,none⟩]) (.skip)))))) (.reg [.o 22 (.bin .add (.t 11) (zK 1)),.m 11 22]))))))) (.seq (.reg [.m 23 3,.k 24 342 [(.k (.csl [])),.t 23],.m 6 24]) (.seq (.seq (.reg [.m 25 0,.o 26 (.lenr (.t 25)),.o 27 (.mov (zK 0))]) (.block 2 (.loop (.seq (.reg [.o 28 (.bin .lss (.t 27) (.t 26))]) (.seq (.cond (.t 28) (.skip) (.exit 2)) (.seq (.block 3 (.seq (.reg [.o 29 (.iadd 1 (.t 25) (.t 27)),.l 30 29,.m 8 30]) (.reg [.m 31 6,.m 32 8,.o 33 (.app 68 5 72 (.t 31) (.t 32)),.m 6 33]))) (.reg [.o 34 (.bin .add (.t 27) (zK 1)),.m 27 34]))))))) (.seq (.reg [.m 35 6,.m 2 35]) (.ret))))))
def r295:List ResV:=[.tmp 2]
theorem k295:CodeIs Tryz.prog 295 1 Tryz.f295 c295 r295:=.auto Tryz.func295
attribute [local go_sem] advO_skip advO_reg advO_seq advO_block advO_exit advO_endb advO_opsNil advO_ops advG_yes advG_no advG_none advS_some advS_none advO_cond advO_loop advO_dreg advO_ret advO_bad advO_inv advO_nil advO_zero wantedV Lamb.step ev_t ev_k put_some put_none argEnv popTo cellsAt V.cellsV V.rows V.sub V.toC toCs fillV bytesC byteRows appV rowsV boundV boundL binV binInt binStr eqC eqL V.isNil leaves V.leaf Ins.quiet Ins.pure List.getD_cons_zero List.getD_cons_succ List.getD_nil List.all_cons List.all_nil List.length_cons List.length_nil List.take_succ_cons List.take_zero List.drop_succ_cons List.drop_zero List.cons_append List.nil_append List.append_nil List.append_assoc List.map_cons List.map_nil List.getElem?_cons_zero List.getElem?_cons_succ List.length_append List.length_set hget0 hget hset0 hset hsets hgs0 hgs hss0 hss List.set_cons_zero List.set_cons_succ List.forall_mem_cons List.not_mem_nil false_implies implies_true Option.map_some Bool.and_true Bool.true_and Bool.not_not Bool.not_true Bool.not_false Bool.and_self Bool.or_true Bool.true_or Bool.or_false Bool.false_or Bool.and_false Bool.false_and Bool.false_eq_true beq_self_eq_true and_self and_true true_and if_true if_false Nat.zero_add Nat.add_zero Nat.le_refl Int.toNat_natCast decide_true decide_false beq_t beq_f List.length_map List.getElem?_map I S B opsC toksC OpT.v OpT.cs OpT.zero Tok.v Tok.cs Pre.v Pre.cs_eq k_mk name_mk n_mk l_mk pos_mk Pre.app applyL natCast0 natCast1 natCast2 AOp.o AOp.m AOp.f AOp.l AOp.d AOp.n AOp.x AOp.s AOp.k AOp.y AOp.z EOp.q low_c low_void low_any low_csl low_nilf low_ptr low_osl low_agg low_tup low_fn resEval advPO_nil advPO_loud advPO_quiet pL_yes pL_no pLS_some pLS_none pQ_yes pQ_no pQS_some pQS_loud eq_self Nat.sub_zero zK zT zF zS4
attribute [local go_sem] Typ.v Typ.cs_eq tk_mk tname_mk tn_mk tl_mk tysC KdT.v KdT.cs NmT.v NmT.cs kdsC nmsC Sg.v Sent.v strsC

theorem nmInfo:(Tryz.prog.info? 68).map (fun i=>(i.zero,i.size,i.bytes)) = some (some (.agg #[.string ⟨#[]⟩,.int .i64 0,.string ⟨#[]⟩,.int .i64 0,.slice none 0 0]),5,72):=by kernel_rfl
theorem made_rowN (w:World) (n:Nat) (hn:n ≤ 1000000) (zc:Array Value) (hz:zc.size = 5) :
  (w.alloc (.cells (Builtin.zeroCells zc n ++ Builtin.zeroCells zc (grownCap w n 0 68 - n)) 68)).drew.ownsRow w.heap.size 68 5 (.slice (some ⟨w.heap.size,0,none⟩) 0 (grownCap w n 0 68)) 0 []:=by
 have hge:=grownCap_ge w n 0 68
 refine ⟨by simp,.inr ⟨w.heap.size,_,_,rfl,Nat.le_refl _,heap_alloc_new w _,Nat.zero_le _,grownCap_le_maxLen w n 0 68 (by unfold maxLen;omega),?_,by simp⟩⟩
 simp only [Array.size_append,size_zeroCells,hz]
 omega
set_option maxHeartbeats 4000000 in
set_option maxRecDepth 100000 in
theorem grow_nm (A:Option Addr) (n:Nat) (w:World) (hn:n ≤ 1000000):Calls Tryz.prog 342 #[.slice A 0 0,.int .i64 n] w (fun e w'=>∃ v,e = .returned v ∧ Below w.heap.size w w' ∧ Roomy w w' 68 5 v):=by
 by_cases h0:n = 0
 ·subst h0
  cases A
  ·go_enter Tryz.func342,Tryz.ntmps342
   go_wp2_with fail
   go_ret
   exact ⟨_,rfl,Below.refl _ _,.inl ⟨_,rfl⟩⟩
  ·go_enter Tryz.func342,Tryz.ntmps342
   go_wp2_with fail
   go_ret
   exact ⟨_,rfl,Below.refl _ _,.inl ⟨_,rfl⟩⟩
 ·obtain ⟨i0,hi0,hz0,hz1,hz2⟩:=info_parts nmInfo
  have h1:¬ ((n:Int) < 0):=by omega
  have h2:(n:Int) > 0:=by omega
  have hw:IntKind.i64.wrap (n:Int) = n:=by rw [wrap_in] <;> omega
  cases A
  case none=>
   have hr:=Lib.run_append_grow_zeros (P:=Tryz.prog) w 23 3 23 68 i0 _ .i64 .i64 Tryz.underlying23 Tryz.underlying3 hi0 hz0 none 0 0 [] (run_firstCells (by simp) (by simp)) n (by omega) (by rw [hz1];decide) (by omega) (by omega) (by rw [hz2];omega) (growslice_fits (by omega) (by rw [hz2];omega))
   go_enter Tryz.func342,Tryz.ntmps342
   go_wp2_with (first
    | (at_builtin;refine Lib.wpList_append_run w rfl (.tmp 20) (.tmp 21) 23 3 rfl _ _ rfl rfl _ _ hr ?_))
   go_ret
   exact ⟨_,rfl,made_below w _,.inr (made_rowN w n hn _ rfl)⟩
  case some a=>
   have hr:=Lib.run_append_grow_zeros (P:=Tryz.prog) w 23 3 23 68 i0 _ .i64 .i64 Tryz.underlying23 Tryz.underlying3 hi0 hz0 (some a) 0 0 [] (run_firstCells (by simp) (by simp)) n (by omega) (by rw [hz1];decide) (by omega) (by omega) (by rw [hz2];omega) (growslice_fits (by omega) (by rw [hz2];omega))
   go_enter Tryz.func342,Tryz.ntmps342
   go_wp2_with (first
    | (at_builtin;refine Lib.wpList_append_run w rfl (.tmp 20) (.tmp 21) 23 3 rfl _ _ rfl rfl _ _ hr ?_))
   go_ret
   exact ⟨_,rfl,made_below w _,.inr (made_rowN w n hn _ rfl)⟩
theorem slices_GrowN (w0:World) (n:Nat) (hn:n ≤ 1000000) (σ:H):DC Tryz.prog w0 342 [.csl [],I n] σ (Same (.osl σ.length []) (σ ++ [.spare 68 5 0])):=by
 refine DC.of_room (enters_fn Tryz.func342 (by kernel_rfl) rfl) fun κ w vs hrep hfit=>?_
 obtain ⟨v,ys,rfl,hv,hfit⟩:=hfit.cons_inv
 obtain ⟨u,zs,rfl,hu,hfit⟩:=hfit.cons_inv
 have:=hfit.nil_inv
 subst this
 cases hv with
 | csl h1=>
   rename_i A
   cases hu with
   | c hu=>
     cases hu with
     | int=>exact grow_nm A n w hn
end Go.Proofs.YtpcmcfajfnpjeaaGreatDoor
namespace Go.Proofs.YtpcmcfajfnpjeaaGreatDoor
open Go.RowKit Go.Lamb
attribute [local go_sem] advO_skip advO_reg advO_seq advO_block advO_exit advO_endb advO_opsNil advO_ops advG_yes advG_no advG_none advS_some advS_none advO_cond advO_loop advO_dreg advO_ret advO_bad advO_inv advO_nil advO_zero wantedV Lamb.step ev_t ev_k put_some put_none argEnv popTo cellsAt V.cellsV V.rows V.sub V.toC toCs fillV bytesC byteRows appV rowsV boundV boundL binV binInt binStr eqC eqL V.isNil leaves V.leaf Ins.quiet Ins.pure List.getD_cons_zero List.getD_cons_succ List.getD_nil List.all_cons List.all_nil List.length_cons List.length_nil List.take_succ_cons List.take_zero List.drop_succ_cons List.drop_zero List.cons_append List.nil_append List.append_nil List.append_assoc List.map_cons List.map_nil List.getElem?_cons_zero List.getElem?_cons_succ List.length_append List.length_set hget0 hget hset0 hset hsets hgs0 hgs hss0 hss List.set_cons_zero List.set_cons_succ List.forall_mem_cons List.not_mem_nil false_implies implies_true Option.map_some Bool.and_true Bool.true_and Bool.not_not Bool.not_true Bool.not_false Bool.and_self Bool.or_true Bool.true_or Bool.or_false Bool.false_or Bool.and_false Bool.false_and Bool.false_eq_true beq_self_eq_true and_self and_true true_and if_true if_false Nat.zero_add Nat.add_zero Nat.le_refl Int.toNat_natCast decide_true decide_false beq_t beq_f List.length_map List.getElem?_map I S B opsC toksC OpT.v OpT.cs OpT.zero Tok.v Tok.cs Pre.v Pre.cs_eq k_mk name_mk n_mk l_mk pos_mk Pre.app applyL natCast0 natCast1 natCast2 AOp.o AOp.m AOp.f AOp.l AOp.d AOp.n AOp.x AOp.s AOp.k AOp.y AOp.z EOp.q low_c low_void low_any low_csl low_nilf low_ptr low_osl low_agg low_tup low_fn resEval advPO_nil advPO_loud advPO_quiet pL_yes pL_no pLS_some pLS_none pQ_yes pQ_no pQS_some pQS_loud eq_self Nat.sub_zero zK zT zF zS4

end Go.Proofs.YtpcmcfajfnpjeaaGreatDoor
namespace Go.Proofs.YtpcmcfajfnpjeaaGreatDoor
open Go.RowKit Go.Lamb


attribute [local go_sem] advO_skip advO_reg advO_seq advO_block advO_exit advO_endb advO_opsNil advO_ops advG_yes advG_no advG_none advS_some advS_none advO_cond advO_loop advO_dreg advO_ret advO_bad advO_inv advO_nil advO_zero wantedV Lamb.step ev_t ev_k put_some put_none argEnv popTo cellsAt V.cellsV V.rows V.sub V.toC toCs fillV bytesC byteRows appV rowsV boundV boundL binV binInt binStr eqC eqL V.isNil leaves V.leaf Ins.quiet Ins.pure List.getD_cons_zero List.getD_cons_succ List.getD_nil List.all_cons List.all_nil List.length_cons List.length_nil List.take_succ_cons List.take_zero List.drop_succ_cons List.drop_zero List.cons_append List.nil_append List.append_nil List.append_assoc List.map_cons List.map_nil List.getElem?_cons_zero List.getElem?_cons_succ List.length_append List.length_set hget0 hget hset0 hset hsets hgs0 hgs hss0 hss List.set_cons_zero List.set_cons_succ List.forall_mem_cons List.not_mem_nil false_implies implies_true Option.map_some Bool.and_true Bool.true_and Bool.not_not Bool.not_true Bool.not_false Bool.and_self Bool.or_true Bool.true_or Bool.or_false Bool.false_or Bool.and_false Bool.false_and Bool.false_eq_true beq_self_eq_true and_self and_true true_and if_true if_false Nat.zero_add Nat.add_zero Nat.le_refl Int.toNat_natCast decide_true decide_false beq_t beq_f List.length_map List.getElem?_map I S B opsC toksC OpT.v OpT.cs OpT.zero Tok.v Tok.cs Pre.v Pre.cs_eq k_mk name_mk n_mk l_mk pos_mk Pre.app applyL natCast0 natCast1 natCast2 AOp.o AOp.m AOp.f AOp.l AOp.d AOp.n AOp.x AOp.s AOp.k AOp.y AOp.z EOp.q low_c low_void low_any low_csl low_nilf low_ptr low_osl low_agg low_tup low_fn resEval advPO_nil advPO_loud advPO_quiet pL_yes pL_no pLS_some pLS_none pQ_yes pQ_no pQS_some pQS_loud eq_self Nat.sub_zero zK zT zF zS4

end Go.Proofs.YtpcmcfajfnpjeaaGreatDoor
namespace Go.Proofs.YtpcmcfajfnpjeaaGreatDoor
open Go.RowKit Go.Lamb






end Go.Proofs.YtpcmcfajfnpjeaaGreatDoor
namespace Go.Lamb
end Go.Lamb
namespace Go.Proofs.YtpcmcfajfnpjeaaGreatDoor
open Go.RowKit Go.Lamb
def c233:AC:=.seq (.reg [.o 3 (.box (.t 1)),.o 4 (.box (.k (.agg [.c (.str []),.c (.int .i64 0),.c (.int .i64 0)]))),.o 5 (.box (.k (.agg [.c (.int .i64 0),.c (.str []),.c (.int .i64 0),.csl [],.c (.int .i64 0)]))),.o 6 (.box (.k (.agg [.c (.int .i64 0),.c (.str []),.c (.int .i64 0),.csl [],.c (.int .i64 0)]))),.o 7 (.mov zF)]) (.seq (.seq (.reg [.d 8 5 3,.k 9 240 [.t 8],.o 10 (.un .not (.t 9)),.m 11 10,.z 12 (.fadd 3 (.t 3)) 11,.z 13 (.load1 (.t 12)) 11,.z 14 (.iadd 5 (.t 13) (zK 0)) 11,.z 15 (.loadn 5 (.t 14)) 11,.z 16 (.call (.k (.fn 240 [])) [.t 15]) 11,.z 17 (.un .not (.t 16)) 11,.o 18 (.pick (.t 11) zT (.t 17)),.m 19 18,.z 20 (.fadd 3 (.t 3)) 19,.z 21 (.load1 (.t 20)) 19,.z 22 (.iadd 5 (.t 21) (zK 0)) 19,.z 23 (.fadd 3 (.t 22)) 19,.z 24 (.load1 (.t 23)) 19,.z 25 (.iadd 5 (.t 24) (zK 0)) 19,.z 26 (.fadd 0 (.t 25)) 19,.z 27 (.load1 (.t 26)) 19,.z 28 (.bin .neq (.t 27) (zK 0)) 19,.o 29 (.pick (.t 19) zT (.t 28))]) (.cond (.t 29) (.ret) (.skip))) (.seq (.dreg [.m 31 0,.n 32 31,.f 33 0 32,.l 34 33,.f 35 3 3,.l 36 35,.o 37 (.iadd 5 (.t 36) (zK 0)),.f 38 3 37,.l 39 38,.o 40 (.iadd 5 (.t 39) (zK 0)),.f 41 1 40,.l 42 41,.k 43 66 [.t 34,.t 42],.m 30 43,.x 44 30 0,.x 45 30 1,.s 3 4 44,.m 7 45] [.q (.m 31 0),.q (.n 32 31),.q (.f 33 0 32),.q (.l 34 33),.q (.f 35 3 3),.q (.l 36 35),.q (.o 37 (.iadd 5 (.t 36) (zK 0))),.q (.f 38 3 37),.q (.l 39 38),.q (.o 40 (.iadd 5 (.t 39) (zK 0))),.q (.f 41 1 40),.q (.l 42 41),⟨.k 43 66 [.t 34,.t 42],true,0⟩,⟨.m 30 43,false,1⟩,⟨.x 44 30 0,false,1⟩,⟨.s 3 4 44,true,1⟩,⟨.x 45 30 1,false,1⟩,⟨.m 7 45,false,2⟩]) (.seq (.dreg [.d 46 3 4,.f 47 3 3,.l 48 47,.o 49 (.iadd 5 (.t 48) (zK 0)),.f 50 3 49,.l 51 50,.o 52 (.iadd 5 (.t 51) (zK 1)),.d 53 5 52,.f 54 3 3,.l 55 54,.o 56 (.iadd 5 (.t 55) (zK 1)),.d 57 5 56,.m 58 7,.s 3 4 46,.s 5 5 53,.s 5 6 57,.m 7 58] [.q (.d 46 3 4),⟨.s 3 4 46,true,0⟩,.q (.f 47 3 3),.q (.l 48 47),.q (.o 49 (.iadd 5 (.t 48) (zK 0))),.q (.f 50 3 49),.q (.l 51 50),.q (.o 52 (.iadd 5 (.t 51) (zK 1))),.q (.d 53 5 52),⟨.s 5 5 53,true,1⟩,.q (.f 54 3 3),.q (.l 55 54),.q (.o 56 (.iadd 5 (.t 55) (zK 1))),.q (.d 57 5 56),⟨.s 5 6 57,true,2⟩,.q (.m 58 7),⟨.m 7 58,false,3⟩]) (.ret))))
end Go.Proofs.YtpcmcfajfnpjeaaGreatDoor

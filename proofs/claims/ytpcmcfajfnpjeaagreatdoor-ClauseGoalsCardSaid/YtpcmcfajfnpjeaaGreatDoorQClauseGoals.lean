/-
 ClauseGoals holds: for every input the statement's function returns true;package-level variables hold what the program's text lays (the card ties them).
-/
import Derived.Test.YtpcmcfajfnpjeaaGreatDoorQJ39
import Derived.Test.YtpcmcfajfnpjeaaGreatDoorQLexRow
import Derived.Test.YtpcmcfajfnpjeaaGreatDoorQOpenM
import Derived.Test.YtpcmcfajfnpjeaaGreatDoorQOpen
set_option linter.unusedSimpArgs false
set_option linter.unusedVariables false
set_option maxHeartbeats 8000000
set_option maxRecDepth 20000
namespace Go.Proofs.YtpcmcfajfnpjeaaGreatDoor.ClauseGoalsDone
open Go.ChangeShapes Go.WideShapes Go.ChangeAt Go.RowKit Go.Lamb
open Go.ChangeMaps (open_string shut_string)

set_option maxRecDepth 100000 in
theorem contract (H:Type) (enc:TypeId × Value → H) (W:World) (base:Nat) (args:Array Value) (ds gs:List (DataW H)) (before:List MemPlace)
  (hval:∀ (j:Nat) t v,Tryz.f10.params[j]? = some t → args[j]? = some v → Value.okWide Tryz.prog W .any base t v)
  (hW:DataW.Whole enc Tryz.prog Tryz.f10.params.toList Rows.clauseGoalsSpec.vars false W args.toList ds gs before)
  (hL:laidMetH Tryz.prog Rows.clauseGoalsRow.laid W) (hS:W.ShapedOpen Tryz.prog) :
  Calls Tryz.prog 10 args W fun e W'=>∃ v,e = .returned v ∧ Rows.clauseGoalsSpec.post enc Tryz.prog Tryz.f10 false true false false W args v W':=by
 have hW':=hW
 obtain ⟨p,q,hA0,hV,rfl,hfz,hnd⟩:=hW
 have hA:DataW.TrodAll enc Tryz.prog W 0 (fun _=>true) true Tryz.f10.params.toList args.toList ds p:=hA0
 rw [Tryz.params10] at hA hval
 obtain ⟨v0,vs0,d0,ds0,p0,q0,h0a,h0b,h0c,h0,r0⟩:=trodAll_cons hA
 obtain ⟨v1,vs1,d1,ds1,p1,q1,h1a,h1b,h1c,h1,r1⟩:=trodAll_cons r0
 obtain ⟨rfl,rfl,rfl⟩:=trodAll_nil r1
 subst h1a h1b h1c
 subst h0b h0c
 obtain rfl:args = #[v0,v1]:=by cases args;simp_all
 obtain ⟨rfl,rfl⟩:=trodVars_none hV
 obtain ⟨x0,hx0,ho0⟩:=open_term (hval 0 30 v0 rfl rfl) h0
 obtain ⟨x1,rfl,rfl,rfl,wx1⟩:=open_intX (hval 1 3 v1 rfl rfl) h1
 clear hA0
 have hltA:=hW'.lt
 simp only [decide_eq_true_eq,List.append_nil,List.nil_append] at hltA
 simp only [List.append_nil,List.nil_append] at hW'
 rw [MakeChecks.laidMetH_plain _ _ _ (by kernel_rfl)] at hL
 have hG:Glob W:=glob_of hL hS (.tail _ (.tail _ (.head _))) (.tail _ (.tail _ (.tail _ (.tail _ (.head _))))) (.tail _ (.tail _ (.tail _ (.tail _ (.tail _ (.head _))))))
 refine (DC.calls (law13_ClauseGoals hG x0 (x1) []) (Fits.cons (hx0) (Fits.cons (.c (.int .i64 x1)) (Fits.nil)))).mono fun e W' ⟨v,d,σ',κ',he,⟨hd,_⟩,hv,hb⟩=>?_
 subst he hd
 cases hv with
 | c hv=>
   cases hv with
   | bool _=>
     exact ⟨_,rfl,_,_,_,_,_,_,hW',trodAll_mk1 (shut_bool Tryz.underlying4 _),(trodAll_cons_mk (Below.trod laidOut (by kernel_rfl) (of_decide_eq_true (by kernel_rfl)) h0 hb (fun x hx=>hltA x (by simp [hx]))) (trodAll_cons_mk (shut_int Tryz.underlying3 wx1) trodAll_mk0)),rfl,hb.frame _,fun h=>by cases h⟩

theorem reads (os:Os) {H:Type} (enc:TypeId × Value → H):∃ places,DataW.whole enc Tryz.prog ((World.laidAll Tryz.prog os Rows.clauseGoalsRow.laid).forCall (fun _ _=>0) ⟨#[],#[.agg #[.int .i64 0,.string ⟨#[]⟩,.int .i64 0,.slice none 0 0],.int .i64 0],[]⟩).memory Tryz.f10.params.toList Rows.clauseGoalsSpec.vars false (#[.agg #[.int .i64 0,.string ⟨#[]⟩,.int .i64 0,.slice none 0 0],.int .i64 0]:Array Value).toList 8 = some ([.agg [.lit (.int .i64 0),.lit (.string []),.lit (.int .i64 0),.nil],.lit (.int .i64 0)],[],places):=
 ⟨[],by kernel_rfl⟩

set_option maxRecDepth 100000 in
theorem lifted (os:Os) (started:os.Started) (H:Type) (enc:TypeId × Value → H) (F:Stop.Interp) :
  ReturnsInHanded {} Tryz.checked os 10 .any ((OpenSpec.ofChange Rows.clauseGoalsSpec).preRow enc Tryz.prog Tryz.f10 Rows.clauseGoalsRow.domain false Rows.clauseGoalsRow.laid) (((OpenSpec.ofChange Rows.clauseGoalsSpec).at F).post enc Tryz.prog Tryz.f10 false true false false):=by
 obtain ⟨places,hx⟩:=reads os enc
 refine returnsInHanded_of_row (C:=Tryz.checked) (s:=OpenSpec.ofChange Rows.clauseGoalsSpec) own started (by kernel_rfl) Tryz.func10
  (witness_row_atRef (enc:=enc) (C:=Tryz.checked) false (World.laidAll Tryz.prog os Rows.clauseGoalsRow.laid) #[.agg #[.int .i64 0,.string ⟨#[]⟩,.int .i64 0,.slice none 0 0],.int .i64 0] (World.laidAll_os _ _ _) (by kernel_rfl) (by kernel_rfl) (by kernel_rfl)
    (OpenSpec.preRow_of_cond 8 hx (by kernel_rfl) (fun k hk=>by cases hk) (by kernel_rfl) (laidMet_laidAll _ (by kernel_rfl) (by kernel_rfl)))) ?_
 intro W base args ds gs before hval hW _ _ _ hL hS _
 exact contract H enc W base args ds gs before hval hW hL hS

theorem closed:joinedFacts Tryz.pinned.checked.prog 10 Tryz.f10 (OpenSpec.ofChange Rows.clauseGoalsSpec).bare Rows.clauseGoalsRow = true:=by
 unfold joinedFacts
 refine Bool.and_eq_true_iff.2 ⟨Bool.and_eq_true_iff.2 ⟨Bool.and_eq_true_iff.2 ⟨Bool.and_eq_true_iff.2 ⟨Bool.and_eq_true_iff.2 ⟨Bool.and_eq_true_iff.2 ⟨Bool.and_eq_true_iff.2 ⟨Bool.and_eq_true_iff.2 ⟨Bool.and_eq_true_iff.2 ⟨Bool.and_eq_true_iff.2 ⟨Bool.and_eq_true_iff.2 ⟨Bool.and_eq_true_iff.2 ⟨Bool.and_eq_true_iff.2 ⟨Bool.and_eq_true_iff.2 ⟨Bool.and_eq_true_iff.2 ⟨Bool.and_eq_true_iff.2 ⟨Bool.and_eq_true_iff.2 ⟨Bool.and_eq_true_iff.2 ⟨Bool.and_eq_true_iff.2 ⟨Bool.and_eq_true_iff.2 ⟨Bool.and_eq_true_iff.2 ⟨Bool.and_eq_true_iff.2 ⟨Bool.and_eq_true_iff.2 ⟨Bool.and_eq_true_iff.2 ⟨Bool.and_eq_true_iff.2 ⟨Bool.and_eq_true_iff.2 ⟨Bool.and_eq_true_iff.2 ⟨Bool.and_eq_true_iff.2 ⟨Bool.and_eq_true_iff.2 ⟨Bool.and_eq_true_iff.2 ⟨Bool.and_eq_true_iff.2 ⟨?_,?_⟩,?_⟩,?_⟩,?_⟩,?_⟩,?_⟩,?_⟩,?_⟩,?_⟩,?_⟩,?_⟩,?_⟩,?_⟩,?_⟩,?_⟩,?_⟩,?_⟩,?_⟩,?_⟩,?_⟩,?_⟩,?_⟩,?_⟩,?_⟩,?_⟩,?_⟩,?_⟩,?_⟩,?_⟩,?_⟩,?_⟩
 all_goals as_aux_lemma=>kernel_rfl
theorem said:Rows.ClauseGoalsSaid:=
 OpenClaim.holds_of_cond 10 Tryz.f10 rfl rfl rfl rfl rfl rfl rfl ⟨rfl,rfl,rfl,rfl,rfl⟩ rfl rfl rfl rfl rfl (by as_aux_lemma=>kernel_rfl) Tryz.func10 closed
  (of_decide_eq_true (by as_aux_lemma=>kernel_rfl)) (by unfold Func.isWrapper;first | (rw [if_pos (by decide +kernel)];kernel_rfl) | (rw [if_neg (by decide +kernel)];exact ⟨rfl,rfl⟩))
  (fun os started H enc _ F=>by rw [OpenClaim.pre_eq_preRow];exact lifted os started H enc F)

theorem plain (f:FuncId) (fn:Func) (hf:Tryz.pinned.checked.prog.funcNamed "lambent/lambentlaw13.ClauseGoals" = some f) (hfn:Tryz.pinned.checked.prog.funcs[f]? = some fn) :
  true = Tryz.pinned.checked.prog.looks [] ∧ ∀ (j:Nat) t,fn.params[j]? = some t → Tryz.pinned.checked.prog.wantsStandIn t = false:=by
 obtain rfl:f = 10:=Option.some.inj ((show Tryz.prog.funcNamed "lambent/lambentlaw13.ClauseGoals" = some 10 by kernel_rfl).symm.trans hf) |>.symm
 obtain rfl:fn = Tryz.f10:=(Option.some.inj (Tryz.func10.symm.trans hfn)).symm
 refine ⟨by kernel_rfl,fun j t ht=>?_⟩
 rw [Tryz.params10] at ht
 have hm:t ∈ [30,3]:=by simpa using Array.mem_of_getElem? ht
 have hall:([30,3].all fun u=>!Tryz.prog.wantsStandIn u) = true:=by kernel_rfl
 exact (show Tryz.prog.wantsStandIn t = false by simpa using List.all_eq_true.1 hall t hm)
end Go.Proofs.YtpcmcfajfnpjeaaGreatDoor.ClauseGoalsDone
namespace Go.Proofs.YtpcmcfajfnpjeaaGreatDoor
open Go
theorem clauseGoals_holds:Rows.ClauseGoalsCardSaid:=
 Claim7.holds_tied_plain_at .later [] _ _ _ _ ClauseGoalsDone.said (fun _ h=>by cases h) (by kernel_rfl) (fun _ h=>by cases h) clauseGoals_row_tie rfl ⟨rfl,rfl⟩ (by kernel_rfl) rfl ClauseGoalsDone.plain (Lamb.goesBy_no nogo rfl)
#print axioms clauseGoals_holds
end Go.Proofs.YtpcmcfajfnpjeaaGreatDoor

/-
 ClauseOpens holds: for every input the statement's function returns true;package-level variables hold what the program's text lays (the card ties them).
-/
import Derived.Test.YtpcmcfajfnpjeaaGreatDoorQJ39
import Derived.Test.YtpcmcfajfnpjeaaGreatDoorQLexRow
import Derived.Test.YtpcmcfajfnpjeaaGreatDoorQOpenM
import Derived.Test.YtpcmcfajfnpjeaaGreatDoorQOpenQ
import Derived.Test.YtpcmcfajfnpjeaaGreatDoorQOpen
set_option linter.unusedSimpArgs false
set_option linter.unusedVariables false
set_option maxHeartbeats 8000000
set_option maxRecDepth 20000
namespace Go.Proofs.YtpcmcfajfnpjeaaGreatDoor.ClauseOpensDone
open Go.ChangeShapes Go.WideShapes Go.ChangeAt Go.RowKit Go.Lamb
open Go.ChangeMaps (open_string shut_string)

set_option maxRecDepth 100000 in
theorem contract (H:Type) (enc:TypeId × Value → H) (W:World) (base:Nat) (args:Array Value) (ds gs:List (DataW H)) (before:List MemPlace)
  (hval:∀ (j:Nat) t v,Tryz.f11.params[j]? = some t → args[j]? = some v → Value.okWide Tryz.prog W .any base t v)
  (hW:DataW.Whole enc Tryz.prog Tryz.f11.params.toList Rows.clauseOpensSpec.vars false W args.toList ds gs before)
  (hL:laidMetH Tryz.prog Rows.clauseOpensRow.laid W) (hS:W.ShapedOpen Tryz.prog) :
  Calls Tryz.prog 11 args W fun e W'=>∃ v,e = .returned v ∧ Rows.clauseOpensSpec.post enc Tryz.prog Tryz.f11 false true false false W args v W':=by
 have hW':=hW
 obtain ⟨p,q,hA0,hV,rfl,hfz,hnd⟩:=hW
 have hA:DataW.TrodAll enc Tryz.prog W 0 (fun _=>true) true Tryz.f11.params.toList args.toList ds p:=hA0
 rw [Tryz.params11] at hA hval
 obtain ⟨v0,vs0,d0,ds0,p0,q0,h0a,h0b,h0c,h0,r0⟩:=trodAll_cons hA
 obtain ⟨v1,vs1,d1,ds1,p1,q1,h1a,h1b,h1c,h1,r1⟩:=trodAll_cons r0
 obtain ⟨rfl,rfl,rfl⟩:=trodAll_nil r1
 subst h1a h1b h1c
 subst h0b h0c
 obtain rfl:args = #[v0,v1]:=by cases args;simp_all
 obtain ⟨rfl,rfl⟩:=trodVars_none hV
 obtain ⟨x0,hx0⟩:=open_cla (hval 0 88 v0 rfl rfl) h0
 obtain ⟨x1,hx1,ho1⟩:=open_terms (hval 1 28 v1 rfl rfl) h1
 clear hA0
 have hltA:=hW'.lt
 simp only [decide_eq_true_eq,List.append_nil,List.nil_append] at hltA
 simp only [List.append_nil,List.nil_append] at hW'
 rw [MakeChecks.laidMetH_plain _ _ _ (by kernel_rfl)] at hL
 have hG:Glob W:=glob_of hL hS (.tail _ (.tail _ (.head _))) (.tail _ (.tail _ (.tail _ (.tail _ (.head _))))) (.tail _ (.tail _ (.tail _ (.tail _ (.tail _ (.head _))))))
 refine (DC.calls (law13_ClauseOpens hG x0 x1 []) (Fits.cons (hx0) (Fits.cons (hx1) (Fits.nil)))).mono fun e W' ⟨v,d,σ',κ',he,⟨hd,_⟩,hv,hb⟩=>?_
 subst he hd
 cases hv with
 | c hv=>
   cases hv with
   | bool _=>
     exact ⟨_,rfl,_,_,_,_,_,_,hW',trodAll_mk1 (shut_bool Tryz.underlying4 _),(trodAll_cons_mk (Below.trod laidOut (by kernel_rfl) (of_decide_eq_true (by kernel_rfl)) h0 hb (fun x hx=>hltA x (by simp [hx]))) (trodAll_cons_mk (Below.trod laidOut (by kernel_rfl) (of_decide_eq_true (by kernel_rfl)) h1 hb (fun x hx=>hltA x (by simp [hx]))) trodAll_mk0)),rfl,hb.frame _,fun h=>by cases h⟩

theorem reads (os:Os) {H:Type} (enc:TypeId × Value → H):∃ places,DataW.whole enc Tryz.prog ((World.laidAll Tryz.prog os Rows.clauseOpensRow.laid).forCall (fun _ _=>0) ⟨#[],#[.agg #[.int .i64 0,.int .i64 0,.string ⟨#[]⟩,.int .i64 0,.slice none 0 0,.int .i64 0,.string ⟨#[]⟩,.int .i64 0,.slice none 0 0],.slice none 0 0],[]⟩).memory Tryz.f11.params.toList Rows.clauseOpensSpec.vars false (#[.agg #[.int .i64 0,.int .i64 0,.string ⟨#[]⟩,.int .i64 0,.slice none 0 0,.int .i64 0,.string ⟨#[]⟩,.int .i64 0,.slice none 0 0],.slice none 0 0]:Array Value).toList 8 = some ([.agg [.lit (.int .i64 0),.agg [.lit (.int .i64 0),.lit (.string []),.lit (.int .i64 0),.nil],.agg [.lit (.int .i64 0),.lit (.string []),.lit (.int .i64 0),.nil]],.nil],[],places):=
 ⟨[],by kernel_rfl⟩

set_option maxRecDepth 100000 in
theorem lifted (os:Os) (started:os.Started) (H:Type) (enc:TypeId × Value → H) (F:Stop.Interp) :
  ReturnsInHanded {} Tryz.checked os 11 .any ((OpenSpec.ofChange Rows.clauseOpensSpec).preRow enc Tryz.prog Tryz.f11 Rows.clauseOpensRow.domain false Rows.clauseOpensRow.laid) (((OpenSpec.ofChange Rows.clauseOpensSpec).at F).post enc Tryz.prog Tryz.f11 false true false false):=by
 obtain ⟨places,hx⟩:=reads os enc
 refine returnsInHanded_of_row (C:=Tryz.checked) (s:=OpenSpec.ofChange Rows.clauseOpensSpec) own started (by kernel_rfl) Tryz.func11
  (witness_row_atRef (enc:=enc) (C:=Tryz.checked) false (World.laidAll Tryz.prog os Rows.clauseOpensRow.laid) #[.agg #[.int .i64 0,.int .i64 0,.string ⟨#[]⟩,.int .i64 0,.slice none 0 0,.int .i64 0,.string ⟨#[]⟩,.int .i64 0,.slice none 0 0],.slice none 0 0] (World.laidAll_os _ _ _) (by kernel_rfl) (by kernel_rfl) (by kernel_rfl)
    (OpenSpec.preRow_of_cond 8 hx (by kernel_rfl) (fun k hk=>by cases hk) (by kernel_rfl) (laidMet_laidAll _ (by kernel_rfl) (by kernel_rfl)))) ?_
 intro W base args ds gs before hval hW _ _ _ hL hS _
 exact contract H enc W base args ds gs before hval hW hL hS

theorem closed:joinedFacts Tryz.pinned.checked.prog 11 Tryz.f11 (OpenSpec.ofChange Rows.clauseOpensSpec).bare Rows.clauseOpensRow = true:=by
 unfold joinedFacts
 refine Bool.and_eq_true_iff.2 ⟨Bool.and_eq_true_iff.2 ⟨Bool.and_eq_true_iff.2 ⟨Bool.and_eq_true_iff.2 ⟨Bool.and_eq_true_iff.2 ⟨Bool.and_eq_true_iff.2 ⟨Bool.and_eq_true_iff.2 ⟨Bool.and_eq_true_iff.2 ⟨Bool.and_eq_true_iff.2 ⟨Bool.and_eq_true_iff.2 ⟨Bool.and_eq_true_iff.2 ⟨Bool.and_eq_true_iff.2 ⟨Bool.and_eq_true_iff.2 ⟨Bool.and_eq_true_iff.2 ⟨Bool.and_eq_true_iff.2 ⟨Bool.and_eq_true_iff.2 ⟨Bool.and_eq_true_iff.2 ⟨Bool.and_eq_true_iff.2 ⟨Bool.and_eq_true_iff.2 ⟨Bool.and_eq_true_iff.2 ⟨Bool.and_eq_true_iff.2 ⟨Bool.and_eq_true_iff.2 ⟨Bool.and_eq_true_iff.2 ⟨Bool.and_eq_true_iff.2 ⟨Bool.and_eq_true_iff.2 ⟨Bool.and_eq_true_iff.2 ⟨Bool.and_eq_true_iff.2 ⟨Bool.and_eq_true_iff.2 ⟨Bool.and_eq_true_iff.2 ⟨Bool.and_eq_true_iff.2 ⟨Bool.and_eq_true_iff.2 ⟨?_,?_⟩,?_⟩,?_⟩,?_⟩,?_⟩,?_⟩,?_⟩,?_⟩,?_⟩,?_⟩,?_⟩,?_⟩,?_⟩,?_⟩,?_⟩,?_⟩,?_⟩,?_⟩,?_⟩,?_⟩,?_⟩,?_⟩,?_⟩,?_⟩,?_⟩,?_⟩,?_⟩,?_⟩,?_⟩,?_⟩,?_⟩
 all_goals as_aux_lemma=>kernel_rfl
theorem said:Rows.ClauseOpensSaid:=
 OpenClaim.holds_of_cond 11 Tryz.f11 rfl rfl rfl rfl rfl rfl rfl ⟨rfl,rfl,rfl,rfl,rfl⟩ rfl rfl rfl rfl rfl (by as_aux_lemma=>kernel_rfl) Tryz.func11 closed
  (of_decide_eq_true (by as_aux_lemma=>kernel_rfl)) (by unfold Func.isWrapper;first | (rw [if_pos (by decide +kernel)];kernel_rfl) | (rw [if_neg (by decide +kernel)];exact ⟨rfl,rfl⟩))
  (fun os started H enc _ F=>by rw [OpenClaim.pre_eq_preRow];exact lifted os started H enc F)

theorem plain (f:FuncId) (fn:Func) (hf:Tryz.pinned.checked.prog.funcNamed "lambent/lambentlaw13.ClauseOpens" = some f) (hfn:Tryz.pinned.checked.prog.funcs[f]? = some fn) :
  true = Tryz.pinned.checked.prog.looks [] ∧ ∀ (j:Nat) t,fn.params[j]? = some t → Tryz.pinned.checked.prog.wantsStandIn t = false:=by
 obtain rfl:f = 11:=Option.some.inj ((show Tryz.prog.funcNamed "lambent/lambentlaw13.ClauseOpens" = some 11 by kernel_rfl).symm.trans hf) |>.symm
 obtain rfl:fn = Tryz.f11:=(Option.some.inj (Tryz.func11.symm.trans hfn)).symm
 refine ⟨by kernel_rfl,fun j t ht=>?_⟩
 rw [Tryz.params11] at ht
 have hm:t ∈ [88,28]:=by simpa using Array.mem_of_getElem? ht
 have hall:([88,28].all fun u=>!Tryz.prog.wantsStandIn u) = true:=by kernel_rfl
 exact (show Tryz.prog.wantsStandIn t = false by simpa using List.all_eq_true.1 hall t hm)
end Go.Proofs.YtpcmcfajfnpjeaaGreatDoor.ClauseOpensDone
namespace Go.Proofs.YtpcmcfajfnpjeaaGreatDoor
open Go
theorem clauseOpens_holds:Rows.ClauseOpensCardSaid:=
 Claim7.holds_tied_plain_at .later [] _ _ _ _ ClauseOpensDone.said (fun _ h=>by cases h) (by kernel_rfl) (fun _ h=>by cases h) clauseOpens_row_tie rfl ⟨rfl,rfl⟩ (by kernel_rfl) rfl ClauseOpensDone.plain (Lamb.goesBy_no nogo rfl)
#print axioms clauseOpens_holds
end Go.Proofs.YtpcmcfajfnpjeaaGreatDoor

/-
 InferMore holds: for every input of bulk at most 1048576 the statement's function returns true;package-level variables hold what the program's text lays (the card ties them).
-/
import Derived.Test.YtdlkenpilhakfaaGreatDoorQJ48
import Derived.Test.YtdlkenpilhakfaaGreatDoorQLexRow
import Derived.Test.YtdlkenpilhakfaaGreatDoorQOpenB
import Derived.Test.YtdlkenpilhakfaaGreatDoorQOpenS
set_option linter.unusedSimpArgs false
set_option linter.unusedVariables false
set_option maxHeartbeats 8000000
set_option maxRecDepth 20000
open Bool renaming and_eq_true_iff->dz
open Go renaming trodAll_cons_mk->EY
open Go.Proofs.Tryz renaming checked->Oa,f5->mO
open Go.Proofs.YtdlkenpilhakfaaGreatDoor.Rows renaming inferMoreSpec->sE,inferMoreUptoRow->vX,uptoBulkAll->qu
open Go.Proofs.YtdlkenpilhakfaaGreatDoor.Rows.OpenSpec renaming upto->EZ
open Go.Proofs.YtdlkenpilhakfaaGreatDoor.Tryz renaming pinned->vY
open List renaming append_nil->cq,nil_append->er
open Option.some renaming inj->vZ
open Go.Proofs.Tryz
namespace Go.Proofs.YtdlkenpilhakfaaGreatDoor.Aa
open Go.ChangeShapes Go.WideShapes Go.ChangeAt Go.RowKit Go.Lamb
open Go.ChangeMaps (open_string shut_string)
set_option maxRecDepth 100000 in
theorem Ov(H:Type)(enc:TypeId×Value->H)(W:World)(base:Nat)(args:Array Value)(ds gs:List (DataW H))(before:List MemPlace)
  (hval:∀(j:Nat) t v,mO.params[j]?=some t->args[j]?=some v->Value.okWide prog W .any base t v)
  (hW:DataW.Whole enc prog mO.params.toList sE.vars false W args.toList ds gs before)
  (hL:laidMetH prog vX.laid W) (hS:W.ShapedOpen prog) (hk:Rows.uptoSmall H (ds++gs)=true):
  Calls prog 5 args W fun e W'=>∃v,e= .returned v/\sE.post enc prog mO false true false false W args v W':=by
 have hW':=hW;obtain⟨p,q,hA0,hV,rfl,hfz,hnd⟩:=hW;have hA:DataW.TrodAll enc prog W 0 (fun _=>true) true mO.params.toList args.toList ds p:=hA0;rw[Tryz.params5]at hA hval;obtain⟨v0,vs0,d0,ds0,p0,q0,h0a,h0b,h0c,h0,r0⟩:=trodAll_cons hA;obtain⟨v1,vs1,d1,ds1,p1,q1,h1a,h1b,h1c,h1,r1⟩:=trodAll_cons r0;obtain⟨v2,vs2,d2,ds2,p2,q2,h2a,h2b,h2c,h2,r2⟩:=trodAll_cons r1;obtain⟨v3,vs3,d3,ds3,p3,q3,h3a,h3b,h3c,h3,r3⟩:=trodAll_cons r2;obtain⟨rfl,rfl,rfl⟩:=trodAll_nil r3;subst h3a h3b h3c;subst h2a h2b h2c;subst h1a h1b h1c
 subst h0b h0c;obtain rfl:args=#[v0,v1,v2,v3]:=by cases args;simp_all
 obtain⟨rfl,rfl⟩:=trodVars_none hV;obtain⟨x0,hx0,ho0,hn0⟩:=Ow Ox (hval 0 26 v0 rfl rfl) h0;obtain⟨x1,hx1⟩:=Oy (hval 1 30 v1 rfl rfl) h1;obtain⟨s2,rfl,rfl,rfl,ws2⟩:=open_string underlying9 (hval 2 9 v2 rfl rfl) h2;obtain⟨x3,hx3,ho3⟩:=Oz (hval 3 34 v3 rfl rfl) h3;clear hA0;have hltA:=hW'.lt;simp only[decide_eq_true_eq,cq,er]at hltA;simp only[cq,er]at hW' hk;have hkb:qu [d0,d1,_,d3]<=1048576:=of_decide_eq_true hk;simp only[qu]at hkb;have hNN0:x0.ops.length<=2000000:=by omega
 rw[MakeChecks.laidMetH_plain _ _ _ (by kernel_rfl)]at hL;have hG:dm W:=OA hL hS (.tail _ (.tail _ (.head _))) (.tail _ (.tail _ (.tail _ (.tail _ (.head _))))) (.tail _ (.tail _ (.tail _ (.tail _ (.tail _ (.head _))))));refine(DC.calls (OB hG x0 (hNN0) x1 (s2.data.toList) x3 []) (Fits.cons (hx0) (Fits.cons (hx1) (Fits.cons (OC s2 ws2) (Fits.cons (hx3) (Fits.nil)))))).mono fun e W' ⟨v,d,σ',κ',he,⟨hd,_⟩,hv,hb⟩=>?_;subst he hd;cases hv with
 |c hv=>
  cases hv with
  |bool _=>
   exact⟨_,rfl,_,_,_,_,_,_,hW',trodAll_mk1 (shut_bool underlying4 _),(EY (Below.trod laidOut (by kernel_rfl) (of_decide_eq_true (by kernel_rfl)) h0 hb (fun x hx=>hltA x (by simp[hx]))) (EY (Below.trod laidOut (by kernel_rfl) (of_decide_eq_true (by kernel_rfl)) h1 hb (fun x hx=>hltA x (by simp[hx]))) (EY (shut_string underlying9 ws2) (EY (Below.trod laidOut (by kernel_rfl) (of_decide_eq_true (by kernel_rfl)) h3 hb (fun x hx=>hltA x (by simp[hx]))) trodAll_mk0)))),rfl,hb.frame _,fun h=>by cases h⟩
theorem reads(os:Os){H:Type}(enc:TypeId×Value->H):∃places,DataW.whole enc prog ((World.laidAll prog os vX.laid).forCall (fun _ _=>0) ⟨#[],#[.agg #[.slice none 0 0,.slice none 0 0,.slice none 0 0],.agg #[.int .i64 0,.string ⟨#[]⟩,.int .i64 0,.slice none 0 0,.int .i64 0],.string ⟨#[]⟩,.agg #[.int .i64 0,.string ⟨#[]⟩,.int .i64 0,.slice none 0 0]],[]⟩).memory mO.params.toList sE.vars false (#[.agg #[.slice none 0 0,.slice none 0 0,.slice none 0 0],.agg #[.int .i64 0,.string ⟨#[]⟩,.int .i64 0,.slice none 0 0,.int .i64 0],.string ⟨#[]⟩,.agg #[.int .i64 0,.string ⟨#[]⟩,.int .i64 0,.slice none 0 0]]:Array Value).toList 8=some ([.agg [.nil,.nil,.nil],.agg [.lit (.int .i64 0),.lit (.string []),.lit (.int .i64 0),.nil,.lit (.int .i64 0)],.lit (.string []),.agg [.lit (.int .i64 0),.lit (.string []),.lit (.int .i64 0),.nil]],[],places):=
 ⟨[],by kernel_rfl⟩
set_option maxRecDepth 100000 in
theorem lifted(os:Os)(started:os.Started)(H:Type)(enc:TypeId×Value->H)(F:Stop.Interp):
  ReturnsInHanded {} Oa os 5 .any ((EZ sE).preRow enc prog mO vX.domain false vX.laid) (((EZ sE).at F).post enc prog mO false true false false):=by
 obtain⟨places,hx⟩:=reads os enc;refine returnsInHanded_of_row (C:=Oa) (s:=EZ sE) own started (by kernel_rfl) func5
  (witness_row_atRef (enc:=enc) (C:=Oa) false (World.laidAll prog os vX.laid) #[.agg #[.slice none 0 0,.slice none 0 0,.slice none 0 0],.agg #[.int .i64 0,.string ⟨#[]⟩,.int .i64 0,.slice none 0 0,.int .i64 0],.string ⟨#[]⟩,.agg #[.int .i64 0,.string ⟨#[]⟩,.int .i64 0,.slice none 0 0]] (World.laidAll_os _ _ _) (by kernel_rfl) (by kernel_rfl) (by kernel_rfl)
    (OpenSpec.preRow_of_cond 8 hx (by kernel_rfl) (fun k hk=>by cases hk;kernel_rfl) (by kernel_rfl) (laidMet_laidAll _ (by kernel_rfl) (by kernel_rfl)))) ?_
 intro W base args ds gs before hval hW _ hcond _ hL hS _;exact Ov H enc W base args ds gs before hval hW hL hS (hcond _ rfl)
theorem closed:joinedFacts vY.checked.prog 5 mO (EZ sE).bare vX=true:=by
 unfold joinedFacts;refine dz.2 ⟨dz.2 ⟨dz.2 ⟨dz.2 ⟨dz.2 ⟨dz.2 ⟨dz.2 ⟨dz.2 ⟨dz.2 ⟨dz.2 ⟨dz.2 ⟨dz.2 ⟨dz.2 ⟨dz.2 ⟨dz.2 ⟨dz.2 ⟨dz.2 ⟨dz.2 ⟨dz.2 ⟨dz.2 ⟨dz.2 ⟨dz.2 ⟨dz.2 ⟨dz.2 ⟨dz.2 ⟨dz.2 ⟨dz.2 ⟨dz.2 ⟨dz.2 ⟨dz.2 ⟨dz.2 ⟨?_,?_⟩,?_⟩,?_⟩,?_⟩,?_⟩,?_⟩,?_⟩,?_⟩,?_⟩,?_⟩,?_⟩,?_⟩,?_⟩,?_⟩,?_⟩,?_⟩,?_⟩,?_⟩,?_⟩,?_⟩,?_⟩,?_⟩,?_⟩,?_⟩,?_⟩,?_⟩,?_⟩,?_⟩,?_⟩,?_⟩,?_⟩
 all_goals as_aux_lemma=>kernel_rfl
theorem said:Rows.InferMoreUptoSaid:=
 OpenClaim.holds_of_cond 5 mO rfl rfl rfl rfl rfl rfl rfl ⟨rfl,rfl,rfl,rfl,rfl⟩ rfl rfl rfl rfl rfl (by as_aux_lemma=>kernel_rfl) func5 closed
  (of_decide_eq_true (by as_aux_lemma=>kernel_rfl)) (by unfold Func.isWrapper;first|(rw[if_pos (by decide+kernel)];kernel_rfl)|(rw[if_neg (by decide+kernel)];exact⟨rfl,rfl⟩))
  (fun os started H enc _ F=>by rw[OpenClaim.pre_eq_preRow];exact lifted os started H enc F)
theorem plain(f:FuncId)(fn:Func)(hf:vY.checked.prog.funcNamed "lambent/lambentlaw12.InferMore" =some f)(hfn:vY.checked.prog.funcs[f]?=some fn):
  true=vY.checked.prog.looks []/\∀(j:Nat) t,fn.params[j]?=some t->vY.checked.prog.wantsStandIn t=false:=by
 obtain rfl:f=5:=vZ ((show prog.funcNamed "lambent/lambentlaw12.InferMore" =some 5 by kernel_rfl).symm.trans hf)|>.symm;obtain rfl:fn=mO:=(vZ (func5.symm.trans hfn)).symm;refine⟨by kernel_rfl,fun j t ht=>?_⟩;rw[Tryz.params5]at ht;have hm:t∈[26,30,9,34]:=by simpa using Array.mem_of_getElem? ht
 have hall:([26,30,9,34].all fun u=>!prog.wantsStandIn u)=true:=by kernel_rfl
 exact(show prog.wantsStandIn t=false by simpa using List.all_eq_true.1 hall t hm)
end Go.Proofs.YtdlkenpilhakfaaGreatDoor.Aa
namespace Go.Proofs.YtdlkenpilhakfaaGreatDoor
open Go
theorem inferMoreUpto_holds:Rows.InferMoreUptoCardSaid:=
 Claim7.holds_tied_plain_at .later [] _ _ _ _ Aa.said (fun _ h=>by cases h) (by kernel_rfl) (fun _ h=>by cases h) inferMoreUpto_row_tie rfl ⟨rfl,rfl⟩ (by kernel_rfl) rfl Aa.plain (Lamb.OD OE rfl)
#print axioms inferMoreUpto_holds
end Go.Proofs.YtdlkenpilhakfaaGreatDoor

/-
 InferNames holds: for every input the statement's function returns true;package-level variables hold what the program's text lays (the card ties them).
-/
import Derived.Test.YtdlkenpilhakfaaGreatDoorQJ45
import Derived.Test.YtdlkenpilhakfaaGreatDoorQLexRow
import Derived.Test.YtdlkenpilhakfaaGreatDoorQOpenS
set_option linter.unusedSimpArgs false
set_option linter.unusedVariables false
set_option maxHeartbeats 8000000
set_option maxRecDepth 20000
open Bool renaming and_eq_true_iff->dB
open Go renaming trodAll_cons_mk->NQ
open Go.OpenSpec renaming ofChange->ED
open Go.Proofs.Tryz renaming checked->NR,f4->mC
open Go.Proofs.YtdlkenpilhakfaaGreatDoor.Rows renaming inferNamesRow->vS,inferNamesSpec->sr
open Go.Proofs.YtdlkenpilhakfaaGreatDoor.Tryz renaming pinned->vT
open List renaming append_nil->cw,nil_append->eH
open Option.some renaming inj->vU
open Go.Proofs.Tryz
namespace Go.Proofs.YtdlkenpilhakfaaGreatDoor.zS
open Go.ChangeShapes Go.WideShapes Go.ChangeAt Go.RowKit Go.Lamb
open Go.ChangeMaps (open_string shut_string)
set_option maxRecDepth 100000 in
theorem Oa(H:Type)(enc:TypeId×Value->H)(W:World)(base:Nat)(args:Array Value)(ds gs:List (DataW H))(before:List MemPlace)
  (hval:∀(j:Nat) t v,mC.params[j]?=some t->args[j]?=some v->Value.okWide prog W .any base t v)
  (hW:DataW.Whole enc prog mC.params.toList sr.vars false W args.toList ds gs before)
  (hL:laidMetH prog vS.laid W) (hS:W.ShapedOpen prog):
  Calls prog 4 args W fun e W'=>∃v,e= .returned v/\sr.post enc prog mC false true false false W args v W':=by
 have hW':=hW;obtain⟨p,q,hA0,hV,rfl,hfz,hnd⟩:=hW;have hA:DataW.TrodAll enc prog W 0 (fun _=>true) true mC.params.toList args.toList ds p:=hA0;rw[Tryz.params4]at hA hval;obtain⟨v0,vs0,d0,ds0,p0,q0,h0a,h0b,h0c,h0,r0⟩:=trodAll_cons hA;obtain⟨v1,vs1,d1,ds1,p1,q1,h1a,h1b,h1c,h1,r1⟩:=trodAll_cons r0;obtain⟨v2,vs2,d2,ds2,p2,q2,h2a,h2b,h2c,h2,r2⟩:=trodAll_cons r1;obtain⟨rfl,rfl,rfl⟩:=trodAll_nil r2;subst h2a h2b h2c;subst h1a h1b h1c;subst h0b h0c;obtain rfl:args=#[v0,v1,v2]:=by cases args;simp_all
 obtain⟨rfl,rfl⟩:=trodVars_none hV;obtain⟨x0,hx0,ho0⟩:=Ob (hval 0 26 v0 rfl rfl) h0;obtain⟨x1,hx1⟩:=Oc (hval 1 30 v1 rfl rfl) h1;obtain⟨x2,hx2,ho2⟩:=Od (hval 2 34 v2 rfl rfl) h2;clear hA0;have hltA:=hW'.lt;simp only[decide_eq_true_eq,cw,eH]at hltA;simp only[cw,eH]at hW';rw[MakeChecks.laidMetH_plain _ _ _ (by kernel_rfl)]at hL;have hG:dj W:=Oe hL hS (.tail _ (.tail _ (.head _))) (.tail _ (.tail _ (.tail _ (.tail _ (.head _))))) (.tail _ (.tail _ (.tail _ (.tail _ (.tail _ (.head _))))));refine(DC.calls (Of hG x0 x1 x2 []) (Fits.cons (hx0) (Fits.cons (hx1) (Fits.cons (hx2) (Fits.nil))))).mono fun e W' ⟨v,d,σ',κ',he,⟨hd,_⟩,hv,hb⟩=>?_
 subst he hd;cases hv with
 |c hv=>
  cases hv with
  |bool _=>
   exact⟨_,rfl,_,_,_,_,_,_,hW',trodAll_mk1 (shut_bool underlying4 _),(NQ (Below.trod laidOut (by kernel_rfl) (of_decide_eq_true (by kernel_rfl)) h0 hb (fun x hx=>hltA x (by simp[hx]))) (NQ (Below.trod laidOut (by kernel_rfl) (of_decide_eq_true (by kernel_rfl)) h1 hb (fun x hx=>hltA x (by simp[hx]))) (NQ (Below.trod laidOut (by kernel_rfl) (of_decide_eq_true (by kernel_rfl)) h2 hb (fun x hx=>hltA x (by simp[hx]))) trodAll_mk0))),rfl,hb.frame _,fun h=>by cases h⟩
theorem reads(os:Os){H:Type}(enc:TypeId×Value->H):∃places,DataW.whole enc prog ((World.laidAll prog os vS.laid).forCall (fun _ _=>0) ⟨#[],#[.agg #[.slice none 0 0,.slice none 0 0,.slice none 0 0],.agg #[.int .i64 0,.string ⟨#[]⟩,.int .i64 0,.slice none 0 0,.int .i64 0],.agg #[.int .i64 0,.string ⟨#[]⟩,.int .i64 0,.slice none 0 0]],[]⟩).memory mC.params.toList sr.vars false (#[.agg #[.slice none 0 0,.slice none 0 0,.slice none 0 0],.agg #[.int .i64 0,.string ⟨#[]⟩,.int .i64 0,.slice none 0 0,.int .i64 0],.agg #[.int .i64 0,.string ⟨#[]⟩,.int .i64 0,.slice none 0 0]]:Array Value).toList 8=some ([.agg [.nil,.nil,.nil],.agg [.lit (.int .i64 0),.lit (.string []),.lit (.int .i64 0),.nil,.lit (.int .i64 0)],.agg [.lit (.int .i64 0),.lit (.string []),.lit (.int .i64 0),.nil]],[],places):=
 ⟨[],by kernel_rfl⟩
set_option maxRecDepth 100000 in
theorem lifted(os:Os)(started:os.Started)(H:Type)(enc:TypeId×Value->H)(F:Stop.Interp):
  ReturnsInHanded {} NR os 4 .any ((ED sr).preRow enc prog mC vS.domain false vS.laid) (((ED sr).at F).post enc prog mC false true false false):=by
 obtain⟨places,hx⟩:=reads os enc;refine returnsInHanded_of_row (C:=NR) (s:=ED sr) own started (by kernel_rfl) func4
  (witness_row_atRef (enc:=enc) (C:=NR) false (World.laidAll prog os vS.laid) #[.agg #[.slice none 0 0,.slice none 0 0,.slice none 0 0],.agg #[.int .i64 0,.string ⟨#[]⟩,.int .i64 0,.slice none 0 0,.int .i64 0],.agg #[.int .i64 0,.string ⟨#[]⟩,.int .i64 0,.slice none 0 0]] (World.laidAll_os _ _ _) (by kernel_rfl) (by kernel_rfl) (by kernel_rfl)
    (OpenSpec.preRow_of_cond 8 hx (by kernel_rfl) (fun k hk=>by cases hk) (by kernel_rfl) (laidMet_laidAll _ (by kernel_rfl) (by kernel_rfl)))) ?_
 intro W base args ds gs before hval hW _ _ _ hL hS _;exact Oa H enc W base args ds gs before hval hW hL hS
theorem closed:joinedFacts vT.checked.prog 4 mC (ED sr).bare vS=true:=by
 unfold joinedFacts;refine dB.2 ⟨dB.2 ⟨dB.2 ⟨dB.2 ⟨dB.2 ⟨dB.2 ⟨dB.2 ⟨dB.2 ⟨dB.2 ⟨dB.2 ⟨dB.2 ⟨dB.2 ⟨dB.2 ⟨dB.2 ⟨dB.2 ⟨dB.2 ⟨dB.2 ⟨dB.2 ⟨dB.2 ⟨dB.2 ⟨dB.2 ⟨dB.2 ⟨dB.2 ⟨dB.2 ⟨dB.2 ⟨dB.2 ⟨dB.2 ⟨dB.2 ⟨dB.2 ⟨dB.2 ⟨dB.2 ⟨?_,?_⟩,?_⟩,?_⟩,?_⟩,?_⟩,?_⟩,?_⟩,?_⟩,?_⟩,?_⟩,?_⟩,?_⟩,?_⟩,?_⟩,?_⟩,?_⟩,?_⟩,?_⟩,?_⟩,?_⟩,?_⟩,?_⟩,?_⟩,?_⟩,?_⟩,?_⟩,?_⟩,?_⟩,?_⟩,?_⟩,?_⟩
 all_goals as_aux_lemma=>kernel_rfl
theorem said:Rows.InferNamesSaid:=
 OpenClaim.holds_of_cond 4 mC rfl rfl rfl rfl rfl rfl rfl ⟨rfl,rfl,rfl,rfl,rfl⟩ rfl rfl rfl rfl rfl (by as_aux_lemma=>kernel_rfl) func4 closed
  (of_decide_eq_true (by as_aux_lemma=>kernel_rfl)) (by unfold Func.isWrapper;first|(rw[if_pos (by decide+kernel)];kernel_rfl)|(rw[if_neg (by decide+kernel)];exact⟨rfl,rfl⟩))
  (fun os started H enc _ F=>by rw[OpenClaim.pre_eq_preRow];exact lifted os started H enc F)
theorem plain(f:FuncId)(fn:Func)(hf:vT.checked.prog.funcNamed "lambent/lambentlaw12.InferNames" =some f)(hfn:vT.checked.prog.funcs[f]?=some fn):
  true=vT.checked.prog.looks []/\∀(j:Nat) t,fn.params[j]?=some t->vT.checked.prog.wantsStandIn t=false:=by
 obtain rfl:f=4:=vU ((show prog.funcNamed "lambent/lambentlaw12.InferNames" =some 4 by kernel_rfl).symm.trans hf)|>.symm;obtain rfl:fn=mC:=(vU (func4.symm.trans hfn)).symm;refine⟨by kernel_rfl,fun j t ht=>?_⟩;rw[Tryz.params4]at ht;have hm:t∈[26,30,34]:=by simpa using Array.mem_of_getElem? ht
 have hall:([26,30,34].all fun u=>!prog.wantsStandIn u)=true:=by kernel_rfl
 exact(show prog.wantsStandIn t=false by simpa using List.all_eq_true.1 hall t hm)
end Go.Proofs.YtdlkenpilhakfaaGreatDoor.zS
namespace Go.Proofs.YtdlkenpilhakfaaGreatDoor
open Go
theorem inferNames_holds:Rows.InferNamesCardSaid:=
 Claim7.holds_tied_plain_at .later [] _ _ _ _ zS.said (fun _ h=>by cases h) (by kernel_rfl) (fun _ h=>by cases h) inferNames_row_tie rfl ⟨rfl,rfl⟩ (by kernel_rfl) rfl zS.plain (Lamb.Og Oh rfl)
#print axioms inferNames_holds
end Go.Proofs.YtdlkenpilhakfaaGreatDoor

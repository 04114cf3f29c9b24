/- . -/
import Derived.Test.YtpcmcfajfnpjeaaGreatDoorQOpenS
set_option linter.unusedSimpArgs false
set_option linter.unusedVariables false
set_option maxHeartbeats 8000000
set_option maxRecDepth 20000
namespace Go.Proofs.YtpcmcfajfnpjeaaGreatDoor
open Go.ChangeShapes Go.WideShapes Go.ChangeAt Go.RowKit Go.Lamb

def plainTysM:List TypeId:=[3,9,31,30,28,27]
theorem plainTysM_ok:∀ t,(plainTysM.contains t) = true → plainB Tryz.prog (fun t=>plainTysM.contains t) t = true:=by
 have h:(plainTysM.all fun t=>plainB Tryz.prog (fun t=>plainTysM.contains t) t) = true:=by kernel_rfl
 intro t ht
 exact List.all_eq_true.1 h t (by simpa using ht)
theorem cells_tmk:Tryz.prog.cellsOf 27 = 1:=by kernel_rfl
theorem cells_tms:Tryz.prog.cellsOf 28 = 1:=by kernel_rfl
theorem cells_tm:Tryz.prog.cellsOf 30 = 4:=by kernel_rfl
theorem cty_tm {t:TypeId} {zs:List C} (h:CTy Tryz.prog t zs):(t = 30 → ∃ p:Typ,zs = p.cs ∧ OkT p) ∧ (t = 28 → ∃ l:List Typ,zs = [tysC l] ∧ ∀ x ∈ l,OkT x):=by
 induction h with
 | sl ht rows h ih=>
   refine ⟨fun e=>?_,fun e=>?_⟩
   ·subst e;rw [Tryz.underlying30] at ht;injection ht with ht;cases ht
   ·subst e;rw [Tryz.underlying28] at ht;injection ht with ht;injection ht with ht;subst ht
    obtain ⟨l,rfl,hl⟩:=rows_ofP (f:=Typ.cs) (q:=OkT) (fun r hr=>(ih r hr).1 rfl)
    exact ⟨l,rfl,hl⟩
 | struct ht zs hl h ih=>
   refine ⟨fun e=>?_,fun e=>?_⟩
   ·subst e;rw [Tryz.underlying30] at ht;injection ht with ht;injection ht with ht;subst ht
    simp only [List.forall_mem_cons,cells_str,cells_int,cells_tmk,cells_tms,List.not_mem_nil,false_implies,implies_true,and_true] at h ih;obtain ⟨h0,h1,h2,_⟩:=h;obtain ⟨_,_,_,h3⟩:=ih;obtain ⟨a,h0,ha⟩:=cty_intR Tryz.underlying27 h0;obtain ⟨b,h1⟩:=cty_str Tryz.underlying9 h1;obtain ⟨c,h2,hc⟩:=cty_intR Tryz.underlying3 h2;obtain ⟨d,h3,hd⟩:=h3.2 trivial;refine ⟨.mk a b c d,?_,.mk ha hc hd⟩;rw [Typ.cs_eq]
    exact list4 (by rw [hl,cells_tm]) (take_drop1 h0) (take_drop1 h1) (take_drop1 h2) (take_drop1 h3)
   ·subst e;rw [Tryz.underlying28] at ht;injection ht with ht;cases ht
 | bool ht | int ht | str ht=>
   refine ⟨fun e=>?_,fun e=>?_⟩
   ·subst e;rw [Tryz.underlying30] at ht;injection ht with ht;cases ht
   ·subst e;rw [Tryz.underlying28] at ht;injection ht with ht;cases ht
section
variable {H:Type} {enc:TypeId × Value → H} {w:World} {base:Nat} {spare:Nat → Bool} {held:Bool} {v:Value} {d:DataW H} {ps:List MemPlace} {r:Reach} {b0:Nat}
theorem open_term (hval:Value.okWide Tryz.prog w r b0 30 v) (h:DataW.Trod enc Tryz.prog w base spare held 30 v d ps):∃ p:Typ,RV (K.start w) p.v v ∧ OkT p:=by
 obtain ⟨xs,rfl,_⟩:=okWide_struct Tryz.underlying30 hval
 obtain ⟨zs,h1,h2⟩:=open_Cn plainTysM_ok (by decide) h
 obtain ⟨p,rfl,hq⟩:=(cty_tm h1).1 rfl
 refine ⟨p,?_,hq⟩
 rw [Typ.cs_eq] at h2
 exact h2
end
end Go.Proofs.YtpcmcfajfnpjeaaGreatDoor

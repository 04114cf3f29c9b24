/- . -/
import Derived.Test.YtpcmcfajfnpjeaaGreatDoorQOpenM
import Derived.Test.YtpcmcfajfnpjeaaGreatDoorQJ36
set_option linter.unusedSimpArgs false
set_option linter.unusedVariables false
set_option maxHeartbeats 8000000
set_option maxRecDepth 20000
namespace Go.Proofs.YtpcmcfajfnpjeaaGreatDoor
open Go.ChangeShapes Go.WideShapes Go.ChangeAt Go.RowKit Go.Lamb

def plainTysQ:List TypeId:=[3,9,31,30,28,27,88]
theorem plainTysQ_ok:∀ t,(plainTysQ.contains t) = true → plainB Tryz.prog (fun t=>plainTysQ.contains t) t = true:=by
 have h:(plainTysQ.all fun t=>plainB Tryz.prog (fun t=>plainTysQ.contains t) t) = true:=by kernel_rfl
 intro t ht
 exact List.all_eq_true.1 h t (by simpa using ht)
theorem cells_cla:Tryz.prog.cellsOf 88 = 9:=by kernel_rfl
theorem cty_cla {zs:List C} (h:CTy Tryz.prog 88 zs):∃ s:Cla,zs = s.cs:=by
 obtain ⟨hl,hf⟩:=cty_struct Tryz.underlying88 h
 simp only [List.forall_mem_cons,cells_int,cells_tm,List.not_mem_nil,false_implies,implies_true,and_true] at hf
 obtain ⟨h0,h1,h2⟩:=hf
 obtain ⟨a,h0⟩:=cty_int Tryz.underlying3 h0
 obtain ⟨p,h1,_⟩:=(cty_tm h1).1 rfl
 obtain ⟨q,h2,_⟩:=(cty_tm h2).1 rfl
 rw [Typ.cs_eq] at h1 h2
 have e0:=take_drop1 h0
 have e1:=take_drops h1
 have e2:=take_drops h2
 refine ⟨⟨a,p,q⟩,list_of 9 (by rw [hl,cells_cla]) rfl fun i hi=>?_⟩
 match i,hi with
 | 0,_=>exact e0
 | 1,_=>exact e1 0 (by decide)
 | 2,_=>exact e1 1 (by decide)
 | 3,_=>exact e1 2 (by decide)
 | 4,_=>exact e1 3 (by decide)
 | 5,_=>exact e2 0 (by decide)
 | 6,_=>exact e2 1 (by decide)
 | 7,_=>exact e2 2 (by decide)
 | 8,_=>exact e2 3 (by decide)
 | n + 9,h=>exact absurd h (by omega)
section
variable {H:Type} {enc:TypeId × Value → H} {w:World} {base:Nat} {spare:Nat → Bool} {held:Bool} {v:Value} {d:DataW H} {ps:List MemPlace} {r:Reach} {b0:Nat}
theorem open_cla (hval:Value.okWide Tryz.prog w r b0 88 v) (h:DataW.Trod enc Tryz.prog w base spare held 88 v d ps):∃ s:Cla,RV (K.start w) s.v v:=by
 obtain ⟨xs,rfl,_⟩:=okWide_struct Tryz.underlying88 hval
 obtain ⟨zs,h1,h2⟩:=open_Cn plainTysQ_ok (by decide) h
 obtain ⟨s,rfl⟩:=cty_cla h1
 exact ⟨s,h2⟩
end
end Go.Proofs.YtpcmcfajfnpjeaaGreatDoor

/- . -/
import Derived.Test.YtdlkenpilhakfaaGreatDoorQOpen
import Derived.Test.YtdlkenpilhakfaaGreatDoorQJ16
set_option linter.unusedSimpArgs false
set_option linter.unusedVariables false
set_option maxHeartbeats 8000000
set_option maxRecDepth 20000
open Go.IntKind renaming i64->aW
open Go.Proofs.Tryz
namespace Go.Proofs.YtdlkenpilhakfaaGreatDoor
open Go.ChangeShapes Go.WideShapes Go.ChangeAt Go.RowKit Go.Lamb
def zI:List TypeId:=[3,9,34,32,31]
theorem ZJ:∀t,(zI.contains t)=true->kH prog (fun t=>zI.contains t) t=true:=by
 have h:(zI.all fun t=>kH prog (fun t=>zI.contains t) t)=true:=by kernel_rfl
 intro t ht;exact List.all_eq_true.1 h t (by simpa using ht)
theorem vQ{t:TypeId}(hu:prog.underlying t=some (.int .i64)){zs:List C}(h:cV prog t zs):∃n,zs=[.int .i64 n]/\gF n:=by
 cases h with
 |int ht n hw=>
  rw[hu]at ht;injection ht with ht;injection ht with ht;subst ht;refine⟨n,rfl,?_⟩;simp only[Lit.wf,Bool.and_eq_true,decide_eq_true_eq]at hw;unfold gF;have h1:aW.min=-9223372036854775808:=by decide
  have h2:aW.max=9223372036854775807:=by decide
  rw[h1,h2]at hw;exact hw
 |bool ht|str ht|sl ht|struct ht=>rw[hu]at ht;injection ht with ht;cases ht
theorem ZK:prog.cellsOf 31=1:=by kernel_rfl
theorem ZL:prog.cellsOf 32=1:=by kernel_rfl
theorem NZ:prog.cellsOf 34=4:=by kernel_rfl
theorem vR{α:Type}{f:α->List C}{q:α->Prop}:∀{rows:List (List C)},(∀r∈rows,∃x,r=f x/\q x)->∃l:List α,rows=l.map f/\∀x∈l,q x
 |[],_=>⟨[],rfl,fun _ h=>by cases h⟩
 |r::rows,h=>by
  obtain⟨x,rfl,hx⟩:=h r (List.mem_cons_self ..);obtain⟨l,rfl,hl⟩:=vR (fun r hr=>h r (List.mem_cons_of_mem _ hr));refine⟨x::l,rfl,fun y hy=>?_⟩;rcases List.mem_cons.1 hy with rfl|hy
  ·exact hx
  ·exact hl y hy
theorem N0{t:TypeId}{zs:List C}(h:cV prog t zs):(t=34->∃p:aa,zs=p.cs/\mi p)/\(t=32->∃l:List aa,zs=[aT l]/\∀x∈l,mi x):=by
 induction h with
 |sl ht rows h ih=>
  refine⟨fun e=>?_,fun e=>?_⟩
  ·subst e;rw[underlying34]at ht;injection ht with ht;cases ht
  ·subst e;rw[underlying32]at ht;injection ht with ht;injection ht with ht;subst ht;obtain⟨l,rfl,hl⟩:=vR (f:=aa.cs) (q:=mi) (fun r hr=>(ih r hr).1 rfl);exact⟨l,rfl,hl⟩
 |struct ht zs hl h ih=>
  refine⟨fun e=>?_,fun e=>?_⟩
  ·subst e;rw[underlying34]at ht;injection ht with ht;injection ht with ht;subst ht;simp only[List.forall_mem_cons,vO,zG,ZK,ZL,List.not_mem_nil,false_implies,implies_true,and_true]at h ih;obtain⟨h0,h1,h2,_⟩:=h;obtain⟨_,_,_,h3⟩:=ih;obtain⟨a,h0,ha⟩:=vQ underlying31 h0;obtain⟨b,h1⟩:=vN underlying9 h1;obtain⟨c,h2,hc⟩:=vQ underlying3 h2;obtain⟨d,h3,hd⟩:=h3.2 trivial;refine⟨.mk a b c d,?_,.mk ha hc hd⟩;rw[aa.aM];exact Zs (by rw[hl,NZ]) (gv h0) (gv h1) (gv h2) (gv h3)
  ·subst e;rw[underlying32]at ht;injection ht with ht;cases ht
 |bool ht|int ht|str ht=>
  refine⟨fun e=>?_,fun e=>?_⟩
  ·subst e;rw[underlying34]at ht;injection ht with ht;cases ht
  ·subst e;rw[underlying32]at ht;injection ht with ht;cases ht
section
variable {H:Type} {enc:TypeId×Value->H} {w:World} {base:Nat} {spare:Nat->Bool} {held:Bool} {v:Value} {d:DataW H} {ps:List MemPlace} {r:Reach} {b0:Nat}
theorem Oz(hval:Value.okWide prog w r b0 34 v)(h:DataW.Trod enc prog w base spare held 34 v d ps):∃p:aa,RV (K.start w) p.v v/\mi p:=by
 obtain⟨xs,rfl,_⟩:=okWide_struct underlying34 hval;obtain⟨zs,h1,h2⟩:=NV ZJ (by decide) h;obtain⟨p,rfl,hq⟩:=(N0 h1).1 rfl;refine⟨p,?_,hq⟩;rw[aa.aM]at h2;exact h2
end
end Go.Proofs.YtdlkenpilhakfaaGreatDoor

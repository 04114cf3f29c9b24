/- . -/
import Derived.Test.YtdlkenpilhakfaaGreatDoorQOpenC
import Derived.Test.YtdlkenpilhakfaaGreatDoorChecked
import Derived.Test.YtdlkenpilhakfaaGreatDoorQJ16
import Derived.Test.YtdlkenpilhakfaaGreatDoorQLexRow
set_option linter.unusedSimpArgs false
set_option linter.unusedVariables false
set_option maxHeartbeats 8000000
set_option maxRecDepth 20000
open Go.Proofs.Tryz
namespace Go.Proofs.YtdlkenpilhakfaaGreatDoor
open Go.ChangeShapes Go.WideShapes Go.ChangeAt Go.RowKit Go.Lamb
def zD:List TypeId:=[3,9,4,60,24,58,30,28,27,123,113,121]
theorem Zm:∀t,(zD.contains t)=true->kH prog (fun t=>zD.contains t) t=true:=by
 have h:(zD.all fun t=>kH prog (fun t=>zD.contains t) t)=true:=by kernel_rfl
 intro t ht;exact List.all_eq_true.1 h t (by simpa using ht)
theorem ET{t:TypeId}{k:IntKind}(hu:prog.underlying t=some (.int k)){zs:List C}(h:cV prog t zs):∃n,zs=[.int k n]:=by
 cases h with
 |int ht n hw=>rw[hu]at ht;injection ht with ht;injection ht with ht;subst ht;exact⟨n,rfl⟩
 |bool ht|str ht|sl ht|struct ht=>rw[hu]at ht;injection ht with ht;cases ht
theorem vN{t:TypeId}(hu:prog.underlying t=some .string){zs:List C}(h:cV prog t zs):∃l,zs=[.str l]:=by
 cases h with
 |str ht l=>exact⟨l,rfl⟩
 |int ht|bool ht|sl ht|struct ht=>rw[hu]at ht;injection ht with ht;cases ht
theorem EU{t e:TypeId}(hu:prog.underlying t=some (.slice e)){zs:List C}(h:cV prog t zs):∃rows,zs=[.sl rows]/\∀r∈rows,cV prog e r:=by
 cases h with
 |sl ht rows h=>rw[hu]at ht;injection ht with ht;injection ht with ht;subst ht;exact⟨rows,rfl,h⟩
 |int ht|bool ht|str ht|struct ht=>rw[hu]at ht;injection ht with ht;cases ht
theorem zE{t:TypeId}{fs:Array Field}(hu:prog.underlying t=some (.struct fs)){zs:List C}(h:cV prog t zs):zs.length=prog.cellsOf t/\∀f∈fs.toList,cV prog f.type ((zs.drop f.offset).take (prog.cellsOf f.type)):=by
 cases h with
 |struct ht zs hl h=>rw[hu]at ht;injection ht with ht;injection ht with ht;subst ht;exact⟨hl,h⟩
 |int ht|bool ht|str ht|sl ht=>rw[hu]at ht;injection ht with ht;cases ht
theorem kX{α:Type}{f:α->List C}:∀{rows:List (List C)},(∀r∈rows,∃x,r=f x)->∃l:List α,rows=l.map f
 |[],_=>⟨[],rfl⟩
 |r::rows,h=>by
  obtain⟨x,rfl⟩:=h r (List.mem_cons_self ..);obtain⟨l,rfl⟩:=kX (fun r hr=>h r (List.mem_cons_of_mem _ hr));exact⟨x::l,rfl⟩
theorem gv{zs:List C}{i:Nat}{x:C}(h:(zs.drop i).take 1=[x]):zs[i]?=some x:=by
 have:=congrArg (fun l=>l[0]?) h;simpa[List.getElem?_take,List.getElem?_drop]using this
theorem zG:prog.cellsOf 3=1:=by kernel_rfl
theorem vO:prog.cellsOf 9=1:=by kernel_rfl
theorem Zn:prog.cellsOf 58=1:=by kernel_rfl
theorem Zo:prog.cellsOf 27=1:=by kernel_rfl
theorem Zp:prog.cellsOf 28=1:=by kernel_rfl
theorem Zq:prog.cellsOf 60=3:=by kernel_rfl
theorem Zr:prog.cellsOf 30=5:=by kernel_rfl
theorem NU{zs:List C}{a b c:C}(hl:zs.length=3)(h0:zs[0]?=some a)(h1:zs[1]?=some b)(h2:zs[2]?=some c):zs=[a,b,c]:=by
 match zs,hl with
 |[x,y,z],_=>simp at h0 h1 h2;subst h0 h1 h2;rfl
theorem Zs{zs:List C}{a b c d:C}(hl:zs.length=4)(h0:zs[0]?=some a)(h1:zs[1]?=some b)(h2:zs[2]?=some c)(h3:zs[3]?=some d):zs=[a,b,c,d]:=by
 match zs,hl with
 |[x,y,z,u],_=>simp at h0 h1 h2 h3;subst h0 h1 h2 h3;rfl
theorem Zt{zs:List C}{a b c d e:C}(hl:zs.length=5)(h0:zs[0]?=some a)(h1:zs[1]?=some b)(h2:zs[2]?=some c)(h3:zs[3]?=some d)(h4:zs[4]?=some e):zs=[a,b,c,d,e]:=by
 match zs,hl with
 |[x,y,z,u,v],_=>simp at h0 h1 h2 h3 h4;subst h0 h1 h2 h3 h4;rfl
theorem Zu{t:TypeId}{zs:List C}(h:cV prog t zs):(t=30->∃p:ao,zs=p.cs)/\(t=28->∃l:List ao,zs=[.sl (l.map ao.cs)]):=by
 induction h with
 |sl ht rows h ih=>
  refine⟨fun e=>?_,fun e=>?_⟩
  ·subst e;rw[underlying30]at ht;injection ht with ht;cases ht
  ·subst e;rw[underlying28]at ht;injection ht with ht;injection ht with ht;subst ht;obtain⟨l,rfl⟩:=kX (f:=ao.cs) (fun r hr=>(ih r hr).1 rfl);exact⟨l,rfl⟩
 |struct ht zs hl h ih=>
  refine⟨fun e=>?_,fun e=>?_⟩
  ·subst e;rw[underlying30]at ht;injection ht with ht;injection ht with ht;subst ht;simp only[List.forall_mem_cons,vO,zG,Zo,Zp,List.not_mem_nil,false_implies,implies_true,and_true]at h ih;obtain⟨h0,h1,h2,_,h4⟩:=h;obtain⟨_,_,_,h3,_⟩:=ih;obtain⟨a,h0⟩:=ET underlying27 h0;obtain⟨b,h1⟩:=vN underlying9 h1;obtain⟨c,h2⟩:=ET underlying3 h2;obtain⟨d,h3⟩:=h3.2 trivial;obtain⟨f,h4⟩:=ET underlying3 h4;refine⟨.mk a b c d f,?_⟩;rw[ao.aM];exact Zt (by rw[hl,Zr]) (gv h0) (gv h1) (gv h2) (gv h3) (gv h4)
  ·subst e;rw[underlying28]at ht;injection ht with ht;cases ht
 |bool ht|int ht|str ht=>
  refine⟨fun e=>?_,fun e=>?_⟩
  ·subst e;rw[underlying30]at ht;injection ht with ht;cases ht
  ·subst e;rw[underlying28]at ht;injection ht with ht;cases ht
section
variable {H:Type} {enc:TypeId×Value->H} {w:World} {base:Nat} {spare:Nat->Bool} {held:Bool} {v:Value} {d:DataW H} {ps:List MemPlace} {r:Reach} {b0:Nat}
theorem Oy(hval:Value.okWide prog w r b0 30 v)(h:DataW.Trod enc prog w base spare held 30 v d ps):∃p:ao,RV (K.start w) p.v v:=by
 obtain⟨xs,rfl,_⟩:=okWide_struct underlying30 hval;obtain⟨zs,h1,h2⟩:=NV Zm (by decide) h;obtain⟨p,rfl⟩:=(Zu h1).1 rfl;refine⟨p,?_⟩;rw[ao.aM]at h2;exact h2
end
end Go.Proofs.YtdlkenpilhakfaaGreatDoor

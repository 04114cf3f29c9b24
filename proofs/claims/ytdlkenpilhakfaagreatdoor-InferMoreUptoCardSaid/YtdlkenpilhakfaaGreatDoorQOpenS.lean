/- . -/
import Derived.Test.YtdlkenpilhakfaaGreatDoorQOpenT
import Derived.Test.YtdlkenpilhakfaaGreatDoorQJ16
set_option linter.unusedSimpArgs false
set_option linter.unusedVariables false
set_option maxHeartbeats 8000000
set_option maxRecDepth 20000
open List renaming forall_mem_cons->sJ,getElem?_eq_none->qC,not_mem_nil->jm
open Go.Proofs.Tryz
namespace Go.Proofs.YtdlkenpilhakfaaGreatDoor
open Go.ChangeShapes Go.WideShapes Go.ChangeAt Go.RowKit Go.Lamb
def zH:List TypeId:=[3,9,57,34,32,31,60,24,58,30,28,27,106,22,50,23,26,56,62]
theorem Yu:∀t,(zH.contains t)=true->kH prog (fun t=>zH.contains t) t=true:=by
 have h:(zH.all fun t=>kH prog (fun t=>zH.contains t) t)=true:=by kernel_rfl
 intro t ht;exact List.all_eq_true.1 h t (by simpa using ht)
structure Ni (s:Sg):Prop where
 k:∀x∈s.kinds,gF x.n
 t:∀x∈s.types,mi x.ty
 o:∀x∈s.ops,gF x.prec/\gF x.fix
theorem Zw:prog.cellsOf 106=2:=by kernel_rfl
theorem Zx:prog.cellsOf 50=5:=by kernel_rfl
theorem Zy:prog.cellsOf 22=1:=by kernel_rfl
theorem Zz:prog.cellsOf 23=1:=by kernel_rfl
theorem ZA:prog.cellsOf 24=1:=by kernel_rfl
theorem ZB:prog.cellsOf 26=3:=by kernel_rfl
theorem ZC{zs xs:List C}{i n:Nat}(h:(zs.drop i).take n=xs)(j:Nat)(hj:j<n):zs[i+j]?=xs[j]?:=by
 have:=congrArg (fun l=>l[j]?) h;simpa[List.getElem?_take,List.getElem?_drop,hj]using this
theorem NY(m:Nat){zs ys:List C}(hl:zs.length=m)(hy:ys.length=m)(h:∀i,i<m->zs[i]?=ys[i]?):zs=ys:=by
 apply List.ext_getElem?;intro i;by_cases hi:i<m
 ·exact h i hi
 ·rw[qC (by omega),qC (by omega)]
theorem ZD{zs:List C}(h:cV prog 60 zs):∃o:cN,zs=o.cs/\gF o.prec/\gF o.fix:=by
 obtain⟨hl,hf⟩:=zE underlying60 h;simp only[sJ,vO,zG,Zn,jm,false_implies,implies_true,and_true]at hf;obtain⟨h0,h1,h2⟩:=hf;obtain⟨a,h0⟩:=vN underlying9 h0;obtain⟨b,h1,hb⟩:=vQ underlying3 h1;obtain⟨c,h2,hc⟩:=vQ underlying58 h2;exact⟨⟨a,b,c⟩,NU (by rw[hl,Zq]) (gv h0) (gv h1) (gv h2),hb,hc⟩
theorem ZE{zs:List C}(h:cV prog 24 zs):∃l:List cN,zs=[iC l]/\∀x∈l,gF x.prec/\gF x.fix:=by
 obtain⟨rows,rfl,hr'⟩:=EU underlying24 h;obtain⟨l,rfl,hq⟩:=vR (f:=cN.cs) (q:=fun x=>gF x.prec/\gF x.fix) (fun r hr=>ZD (hr' r hr));exact⟨l,rfl,hq⟩
theorem ZF{zs:List C}(h:cV prog 106 zs):∃o:bL,zs=o.cs/\gF o.n:=by
 obtain⟨hl,hf⟩:=zE underlying106 h;simp only[sJ,vO,zG,jm,false_implies,implies_true,and_true]at hf;obtain⟨h0,h1⟩:=hf;obtain⟨a,h0⟩:=vN underlying9 h0;obtain⟨b,h1,hb⟩:=vQ underlying3 h1;have e0:=gv h0;have e1:=gv h1;refine⟨⟨a,b⟩,NY 2 (by rw[hl,Zw]) rfl fun i hi=>?_,hb⟩
 match i,hi with
 |0,_=>exact e0
 |1,_=>exact e1
theorem ZG{zs:List C}(h:cV prog 22 zs):∃l:List bL,zs=[fO l]/\∀x∈l,gF x.n:=by
 obtain⟨rows,rfl,hr'⟩:=EU underlying22 h;obtain⟨l,rfl,hq⟩:=vR (f:=bL.cs) (q:=fun x=>gF x.n) (fun r hr=>ZF (hr' r hr));exact⟨l,rfl,hq⟩
theorem ZH{zs:List C}(h:cV prog 50 zs):∃o:ay,zs=o.cs/\mi o.ty:=by
 obtain⟨hl,hf⟩:=zE underlying50 h;simp only[sJ,vO,NZ,jm,false_implies,implies_true,and_true]at hf;obtain⟨h0,h1⟩:=hf;obtain⟨a,h0⟩:=vN underlying9 h0;obtain⟨p,h1,hp⟩:=(N0 h1).1 rfl;rw[aa.aM]at h1;have e0:=gv h0;have e1:=ZC h1;refine⟨⟨a,p⟩,NY 5 (by rw[hl,Zx]) rfl fun i hi=>?_,hp⟩
 match i,hi with
 |0,_=>exact e0
 |1,_=>exact e1 0 (by decide)
 |2,_=>exact e1 1 (by decide)
 |3,_=>exact e1 2 (by decide)
 |4,_=>exact e1 3 (by decide)
theorem ZI{zs:List C}(h:cV prog 23 zs):∃l:List ay,zs=[ef l]/\∀x∈l,mi x.ty:=by
 obtain⟨rows,rfl,hr'⟩:=EU underlying23 h;obtain⟨l,rfl,hq⟩:=vR (f:=ay.cs) (q:=fun x=>mi x.ty) (fun r hr=>ZH (hr' r hr));exact⟨l,rfl,hq⟩
theorem Yv{zs:List C}(h:cV prog 26 zs):∃s:Sg,zs=[fO s.kinds,ef s.types,iC s.ops]/\Ni s:=by
 obtain⟨hl,hf⟩:=zE underlying26 h;simp only[sJ,Zy,Zz,ZA,jm,false_implies,implies_true,and_true]at hf;obtain⟨h0,h1,h2⟩:=hf;obtain⟨a,h0,ha⟩:=ZG h0;obtain⟨b,h1,hb⟩:=ZI h1;obtain⟨c,h2,hc⟩:=ZE h2;exact⟨⟨a,b,c⟩,NU (by rw[hl,ZB]) (gv h0) (gv h1) (gv h2),ha,hb,hc⟩
section
variable {H:Type} {enc:TypeId×Value->H} {w:World} {base:Nat} {spare:Nat->Bool} {held:Bool} {v:Value} {d:DataW H} {ps:List MemPlace} {r:Reach} {b0:Nat}
end
end Go.Proofs.YtdlkenpilhakfaaGreatDoor

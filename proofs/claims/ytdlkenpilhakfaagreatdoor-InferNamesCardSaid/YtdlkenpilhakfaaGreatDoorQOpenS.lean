/- . -/
import Derived.Test.YtdlkenpilhakfaaGreatDoorQOpenT
import Derived.Test.YtdlkenpilhakfaaGreatDoorQJ16
set_option linter.unusedSimpArgs false
set_option linter.unusedVariables false
set_option maxHeartbeats 8000000
set_option maxRecDepth 20000
open List renaming forall_mem_cons->sw,getElem?_eq_none->qt,not_mem_nil->jj
open Go.Proofs.Tryz
namespace Go.Proofs.YtdlkenpilhakfaaGreatDoor
open Go.ChangeShapes Go.WideShapes Go.ChangeAt Go.RowKit Go.Lamb
def zt:List TypeId:=[3,9,57,34,32,31,60,24,58,30,28,27,106,22,50,23,26,56,62]
theorem Zh:∀t,(zt.contains t)=true->nI prog (fun t=>zt.contains t) t=true:=by
 have h:(zt.all fun t=>nI prog (fun t=>zt.contains t) t)=true:=by kernel_rfl
 intro t ht;exact List.all_eq_true.1 h t (by simpa using ht)
structure ND (s:Sg):Prop where
 k:∀x∈s.kinds,gE x.n
 t:∀x∈s.types,mb x.ty
 o:∀x∈s.ops,gE x.prec/\gE x.fix
theorem Zi:prog.cellsOf 106=2:=by kernel_rfl
theorem Zj:prog.cellsOf 50=5:=by kernel_rfl
theorem Zk:prog.cellsOf 22=1:=by kernel_rfl
theorem Zl:prog.cellsOf 23=1:=by kernel_rfl
theorem Zm:prog.cellsOf 24=1:=by kernel_rfl
theorem Zn:prog.cellsOf 26=3:=by kernel_rfl
theorem Zo{zs xs:List C}{i n:Nat}(h:(zs.drop i).take n=xs)(j:Nat)(hj:j<n):zs[i+j]?=xs[j]?:=by
 have:=congrArg (fun l=>l[j]?) h;simpa[List.getElem?_take,List.getElem?_drop,hj]using this
theorem NF(m:Nat){zs ys:List C}(hl:zs.length=m)(hy:ys.length=m)(h:∀i,i<m->zs[i]?=ys[i]?):zs=ys:=by
 apply List.ext_getElem?;intro i;by_cases hi:i<m
 ·exact h i hi
 ·rw[qt (by omega),qt (by omega)]
theorem Zp{zs:List C}(h:dH prog 60 zs):∃o:eA,zs=o.cs/\gE o.prec/\gE o.fix:=by
 obtain⟨hl,hf⟩:=zq underlying60 h;simp only[sw,vK,zr,Y9,jj,false_implies,implies_true,and_true]at hf;obtain⟨h0,h1,h2⟩:=hf;obtain⟨a,h0⟩:=vJ underlying9 h0;obtain⟨b,h1,hb⟩:=vL underlying3 h1;obtain⟨c,h2,hc⟩:=vL underlying58 h2;exact⟨⟨a,b,c⟩,NC (by rw[hl,Zc]) (gu h0) (gu h1) (gu h2),hb,hc⟩
theorem Zq{zs:List C}(h:dH prog 24 zs):∃l:List eA,zs=[oe l]/\∀x∈l,gE x.prec/\gE x.fix:=by
 obtain⟨rows,rfl,hr'⟩:=Ey underlying24 h;obtain⟨l,rfl,hq⟩:=vM (f:=eA.cs) (q:=fun x=>gE x.prec/\gE x.fix) (fun r hr=>Zp (hr' r hr));exact⟨l,rfl,hq⟩
theorem Zr{zs:List C}(h:dH prog 106 zs):∃o:eC,zs=o.cs/\gE o.n:=by
 obtain⟨hl,hf⟩:=zq underlying106 h;simp only[sw,vK,zr,jj,false_implies,implies_true,and_true]at hf;obtain⟨h0,h1⟩:=hf;obtain⟨a,h0⟩:=vJ underlying9 h0;obtain⟨b,h1,hb⟩:=vL underlying3 h1;have e0:=gu h0;have e1:=gu h1;refine⟨⟨a,b⟩,NF 2 (by rw[hl,Zi]) rfl fun i hi=>?_,hb⟩
 match i,hi with
 |0,_=>exact e0
 |1,_=>exact e1
theorem Zs{zs:List C}(h:dH prog 22 zs):∃l:List eC,zs=[kZ l]/\∀x∈l,gE x.n:=by
 obtain⟨rows,rfl,hr'⟩:=Ey underlying22 h;obtain⟨l,rfl,hq⟩:=vM (f:=eC.cs) (q:=fun x=>gE x.n) (fun r hr=>Zr (hr' r hr));exact⟨l,rfl,hq⟩
theorem Zt{zs:List C}(h:dH prog 50 zs):∃o:az,zs=o.cs/\mb o.ty:=by
 obtain⟨hl,hf⟩:=zq underlying50 h;simp only[sw,vK,NG,jj,false_implies,implies_true,and_true]at hf;obtain⟨h0,h1⟩:=hf;obtain⟨a,h0⟩:=vJ underlying9 h0;obtain⟨p,h1,hp⟩:=(NH h1).1 rfl;rw[aa.aM]at h1;have e0:=gu h0;have e1:=Zo h1;refine⟨⟨a,p⟩,NF 5 (by rw[hl,Zj]) rfl fun i hi=>?_,hp⟩
 match i,hi with
 |0,_=>exact e0
 |1,_=>exact e1 0 (by decide)
 |2,_=>exact e1 1 (by decide)
 |3,_=>exact e1 2 (by decide)
 |4,_=>exact e1 3 (by decide)
theorem Zu{zs:List C}(h:dH prog 23 zs):∃l:List az,zs=[gg l]/\∀x∈l,mb x.ty:=by
 obtain⟨rows,rfl,hr'⟩:=Ey underlying23 h;obtain⟨l,rfl,hq⟩:=vM (f:=az.cs) (q:=fun x=>mb x.ty) (fun r hr=>Zt (hr' r hr));exact⟨l,rfl,hq⟩
theorem Zv{zs:List C}(h:dH prog 26 zs):∃s:Sg,zs=[kZ s.kinds,gg s.types,oe s.ops]/\ND s:=by
 obtain⟨hl,hf⟩:=zq underlying26 h;simp only[sw,Zk,Zl,Zm,jj,false_implies,implies_true,and_true]at hf;obtain⟨h0,h1,h2⟩:=hf;obtain⟨a,h0,ha⟩:=Zs h0;obtain⟨b,h1,hb⟩:=Zu h1;obtain⟨c,h2,hc⟩:=Zq h2;exact⟨⟨a,b,c⟩,NC (by rw[hl,Zn]) (gu h0) (gu h1) (gu h2),ha,hb,hc⟩
section
variable {H:Type} {enc:TypeId×Value->H} {w:World} {base:Nat} {spare:Nat->Bool} {held:Bool} {v:Value} {d:DataW H} {ps:List MemPlace} {r:Reach} {b0:Nat}
theorem Ob(hval:Value.okWide prog w r b0 26 v)(h:DataW.Trod enc prog w base spare held 26 v d ps):∃s:Sg,RV (K.start w) s.v v/\ND s:=by
 obtain⟨xs,rfl,_⟩:=okWide_struct underlying26 hval;obtain⟨zs,h1,h2⟩:=Ez Zh (by decide) h;obtain⟨s,rfl,hs⟩:=Zv h1;exact⟨s,h2,hs⟩
end
end Go.Proofs.YtdlkenpilhakfaaGreatDoor

/- . -/
import Derived.Test.YtdlkenpilhakfaaGreatDoorQC
set_option linter.unusedSimpArgs false
set_option linter.unusedVariables false
set_option maxHeartbeats 8000000
set_option maxRecDepth 20000
set_option linter.defProp false
set_option linter.unnecessarySimpa false
set_option linter.constructorNameAsVariable false
open And renaming intro->mq
open Array renaming replicate_succ->xn,replicate_zero->xp
open Bool renaming and_eq_true->bM,false_eq_true->iW
open Classical renaming choose->xw,choose_spec->Bm
open Decidable renaming of_not_not->aeg
open Fin renaming val->jB
open Go renaming cell_kept->gY,grownBy_putObj'->ud
open Go.IntKind renaming i64->aE
open Go.KeepsOthers renaming setCell->xv
open Go.RowKit.Below renaming refl->fJ
open Go.World renaming cell?_alloc_at->xt,cell?_setCell_same'->xu
open Int renaming le_refl->ei,toNat_natCast->jX
open List renaming append_assoc->dq,append_nil->cd,cons_ne_nil->aF,drop->gh,drop_left'->GO,eq_nil_of_length_eq_zero->fM,ext_getElem->tU,flatten_cons->dS,flatten_nil->kO,getElem?_append_left->cr,getElem?_eq_getElem->aN,getElem?_eq_some_iff->aI,getElem?_set_self->bW,getElem_append_left->cM,getElem_append_right->dY,getElem_set->Bk,length_append->bC,length_cons->bG,length_map->bY,length_pos_iff->iX,length_reverse->Bj,length_set->bz,length_take->dE,map->gV,map_append->dF,map_cons->ck,map_nil->cP,mem_append->cJ,mem_append_left->kM,mem_cons_of_mem->bH,mem_cons_self->aZ,mem_or_eq_of_mem_set->mr,nil_append->dK,set_append_left->ly,set_set->rS,take->dj,take_length->jA,take_of_length_le->dT,take_succ_eq_append_getElem->eW,all_eq_true->cW,append_toArray->xr,cons_append->iB,getD_eq_getElem?_getD->cx,getElem?_append_right->da,getElem?_set_ne->bA,getElem_eq_iff->nG,getElem_map->eI,getElem_mem->bg,getElem_of_mem->eH,length_nil->dU,mem_cons->cD,mem_map->eU,mem_range->nE,mem_singleton->mv,push_toArray->xq,set_append_right->gX,singleton_append->aef,size_toArray->pZ,take_succ_cons->jW,take_zero->ey,dropLast_concat->aeh,drop_append_of_le_length->QB,headD_cons->oX,length_drop->xj,mem_of_find?_eq_some->QE
open Nat renaming add_mul->fK,add_sub_cancel_left->fu,le_of_eq->oZ,le_refl->aA,zero_le->be,add_zero->nC,lt_of_succ_lt_succ->mm,reduceAdd->iA,reduceSub->tZ,sub_self->cw,zero_add->eJ,le_add_right->p9,le_trans->bf,mul_add->iC,mul_one->eK
open Ne renaming symm->dz
open Option renaming getD_some->mi,isSome_some->QD
open Go.Proofs.Tryz
namespace Go.Lamb
open Go Go.RowKit
def bR(p:aa×aa):List C:=[.int .i64 p.1.k,.str p.1.name,.int .i64 p.1.n,.sl (p.1.l.map aa.cs),.int .i64 p.2.k,.str p.2.name,.int .i64 p.2.n,.sl (p.2.l.map aa.cs)]
def aU(l:List (aa×aa)):List C:=(l.map bR).flatten
def te(l:List (aa×aa)):∀r∈l.map bR,r.length=8:=fun r b=>by
 obtain⟨u,_,rfl⟩:=List.mem_map.1 b;rfl
def MY{n:Nat}{rows:List (List C)}(h:∀r∈rows,r.length=n):rows.flatten.length=rows.length*n:=by
 induction rows with
 |nil=>simp
 |cons r l b=>
  rw[dS,bC,b (fun q c=>h q (bH _ c)),h r (aZ ..),bG,fK];omega
def MZ{n:Nat}{rows:List (List C)}(h:∀r∈rows,r.length=n){i:Nat}(b:i<rows.length):(rows.flatten.drop (i*n)).take n=rows[i]:=by
 have c:=uN n rows.length rows.flatten i (by rw[ya];exact b);rw[<-c];have e:=qo h;simp only[e]
def M0{n:Nat}{rows:List (List C)}:(∀r∈rows,r.length=n)->∀{i:Nat} (b:i<rows.length) (y:List C),y.length=n->rows.flatten.take (i*n)++y++rows.flatten.drop (i*n+n)=(rows.set i y).flatten:=by
 induction rows with
 |nil=>intro _ i b;simp at b
 |cons r l e=>
  intro h i b y g;have c:=h r (aZ ..);cases i with
  |zero=>
   rw[List.set_cons_zero,dS,dS,Nat.zero_mul,List.take_zero,dK,Nat.zero_add]
   conv=>lhs;rw[<-c,List.drop_left]
  |succ i=>
   have j:(i+1)*n=r.length+i*n:=by rw[c,fK];omega
   rw[List.set_cons_succ,dS,dS,<-e (fun q p=>h q (bH _ p)) (by simpa using b) y g];rw[j,List.take_append,dT (by omega),fu,Nat.add_assoc,List.drop_append,List.drop_of_length_le (by omega),fu,dK];simp only[dq]
def iS(l:List (aa×aa)):(aU l).length=l.length*8:=by unfold aU;rw[MY (te l),bY]
def vL(a b:List (aa×aa)):aU (a++b)=aU a++aU b:=by unfold aU;rw[dF,List.flatten_append]
def XW{l:List (aa×aa)}{i:Nat}(b:i<l.length):dj 8 (gh (i*8) (aU l))=bR l[i]:=by
 have h:=MZ (te l) (i:=i) (by rw[bY];exact b);rw[List.getElem_map]at h;exact h
def M1{l:List (aa×aa)}{i:Nat}(b:i<l.length):dj 8 (gh (i*8) (gV V.c (aU l)))=(bR l[i]).map V.c:=by
 rw[<-List.map_drop,<-List.map_take,XW b]
def tf:∀(a b:List aa),a.length=b.length->(dv a b).length=a.length
 |[],[],_=>rfl
 |x::a,y::b,h=>by rw[dv,bG,tf a b (by simpa using h),bG]
 |[],_::_,h=>by cases h
 |_::_,[],h=>by cases h
def vM:∀(a b:List aa) (i:Nat) (h:i<(dv a b).length) (ha:i<a.length) (c:i<b.length),(dv a b)[i]=(a[i],b[i])
 |x::a,y::b,0,_,_,_=>rfl
 |x::a,y::b,i+1,h,ha,c=>by
  simp only[dv,List.getElem_cons_succ];exact vM a b i (by simpa[dv]using h) (by simpa using ha) (by simpa using c)
end Go.Lamb
namespace Go.Proofs.YtdlkenpilhakfaaGreatDoor
open Go.RowKit Go.Lamb
section
attribute [local go_sem] aa.v aa.aG aO aQ aL aH aM
def iv(m:Nat)(l:List (aa×aa)):V:=if l=[]then .ae []else .vec m l.length
def iw(σ:H)(l:List (aa×aa)):H:=if l=[]then σ else σ++[.vec 235 8 (aU l)]
def XX(w0:World){s:List aa}{a b x y:aa}(bs:Nat)(σ:H)(e:σ[bs]?=some (.vec 34 4 (aK s)))
  (g:∀σ,σ[bs]?=some (.vec 34 4 (aK s))->DC prog w0 191 [.vec bs s.length,a.v] σ (Same x.v σ)) (h:∀σ,σ[bs]?=some (.vec 34 4 (aK s))->DC prog w0 191 [.vec bs s.length,b.v] σ (Same y.v σ)) (i:(x.k==1)=true) (j:(y.k==1)=true) (hn:(x.n==y.n)=true):DC prog w0 227 [.vec bs s.length,a.v,b.v] σ (Same (.au [.ae [],I 0]) σ):=by
 refine lR.go rfl (fun c p=>?_);apply bl;simp only[go_sem,c227];apply W.aD (aF _ _)
 case hc=>
  (apply ab.aj;simp only[go_sem]);(apply ab.call (g _ (hG e _))<;>try rfl);(apply ab.aj;simp only[go_sem]);(apply ab.call (h _ (hG e _))<;>try rfl);(apply ab.aj;simp only[go_sem]);exact ab.nil
 apply bl;simp only[go_sem,i,j,hn];refine wY ?_;simp only[go_sem];exact wF c
def XY(w0:World){s:List aa}{a b x y:aa}(bs:Nat)(σ:H)(j:σ[bs]?=some (.vec 34 4 (aK s)))
  (u:∀σ,σ[bs]?=some (.vec 34 4 (aK s))->DC prog w0 191 [.vec bs s.length,a.v] σ (Same x.v σ)) (w:∀σ,σ[bs]?=some (.vec 34 4 (aK s))->DC prog w0 191 [.vec bs s.length,b.v] σ (Same y.v σ)) (p:(x.k==1)=true) (t:(y.k==1)=true) (hn:(x.n==y.n)=false) (e:Int) (s':List aa)
  (A:∀L,DC prog w0 259 [.vec bs s.length,I (max x.n y.n),(aJ (min x.n y.n)).v] (σ++L) (Same (I e) (σ.set bs (.vec 34 4 (aK s'))++L))):DC prog w0 227 [.vec bs s.length,a.v,b.v] σ (Same (.au [.ae [],I e]) (σ.set bs (.vec 34 4 (aK s')))):=by
 refine lR.go rfl (fun i D=>?_);have c:H.ok (σ.set bs (.vec 34 4 (aK s'))):=vK i bs _ _ _;have g:(if y.n>x.n then y.n else x.n)=max x.n y.n:=by split<;>omega
 have h:(if y.n<x.n then y.n else x.n)=min x.n y.n:=by split<;>omega
 have E:=fun σ=>ML w0 (min x.n y.n) σ;generalize max x.n y.n=q at*
 generalize aJ (min x.n y.n)=z at*
 generalize min x.n y.n=r at*
 apply bl;simp only[go_sem,c227];apply W.aD (aF _ _)
 case hc=>
  (apply ab.aj;simp only[go_sem]);(apply ab.call (u _ (hG j _))<;>try rfl);(apply ab.aj;simp only[go_sem]);(apply ab.call (w _ (hG j _))<;>try rfl);(apply ab.aj;simp only[go_sem]);exact ab.nil
 apply bl;simp only[go_sem,p,t,hn];refine wN ?_;simp only[go_sem,p,t,hn];refine wY ?_;simp only[go_sem];apply W.aD (aF _ _)
 case hc=>
  (apply ab.aj;simp only[go_sem,g,h]);(apply ab.call (E _)<;>try rfl);(apply ab.aj;simp only[go_sem,g,h]);(apply ab.call (A _)<;>try rfl);(apply ab.aj;simp only[go_sem]);exact ab.nil
 apply bl;simp only[go_sem];exact wF c
def XZ(w0:World){s:List aa}{a b x y:aa}(bs:Nat)(σ:H)(j:σ[bs]?=some (.vec 34 4 (aK s)))
  (p:∀σ,σ[bs]?=some (.vec 34 4 (aK s))->DC prog w0 191 [.vec bs s.length,a.v] σ (Same x.v σ)) (r:∀σ,σ[bs]?=some (.vec 34 4 (aK s))->DC prog w0 191 [.vec bs s.length,b.v] σ (Same y.v σ)) (g:(x.k==1)=true) (h:(y.k==1)=false) (e:Int) (s':List aa)
  (t:∀L,DC prog w0 259 [.vec bs s.length,I x.n,y.v] (σ++L) (Same (I e) (σ.set bs (.vec 34 4 (aK s'))++L))):DC prog w0 227 [.vec bs s.length,a.v,b.v] σ (Same (.au [.ae [],I e]) (σ.set bs (.vec 34 4 (aK s')))):=by
 refine lR.go rfl (fun i u=>?_);have c:H.ok (σ.set bs (.vec 34 4 (aK s'))):=vK i bs _ _ _;apply bl;simp only[go_sem,c227];apply W.aD (aF _ _)
 case hc=>
  (apply ab.aj;simp only[go_sem]);(apply ab.call (p _ (hG j _))<;>try rfl);(apply ab.aj;simp only[go_sem]);(apply ab.call (r _ (hG j _))<;>try rfl);(apply ab.aj;simp only[go_sem]);exact ab.nil
 apply bl;simp only[go_sem,g,h];refine wN ?_;simp only[go_sem,g,h];refine wN ?_;simp only[go_sem,g,h];refine wY ?_;simp only[go_sem];(refine db (t _) ?_;simp only[go_sem]);exact wF c
def X0(w0:World){s:List aa}{a b x y:aa}(bs:Nat)(σ:H)(j:σ[bs]?=some (.vec 34 4 (aK s)))
  (p:∀σ,σ[bs]?=some (.vec 34 4 (aK s))->DC prog w0 191 [.vec bs s.length,a.v] σ (Same x.v σ)) (r:∀σ,σ[bs]?=some (.vec 34 4 (aK s))->DC prog w0 191 [.vec bs s.length,b.v] σ (Same y.v σ)) (g:(x.k==1)=false) (h:(y.k==1)=true) (e:Int) (s':List aa)
  (t:∀L,DC prog w0 259 [.vec bs s.length,I y.n,x.v] (σ++L) (Same (I e) (σ.set bs (.vec 34 4 (aK s'))++L))):DC prog w0 227 [.vec bs s.length,a.v,b.v] σ (Same (.au [.ae [],I e]) (σ.set bs (.vec 34 4 (aK s')))):=by
 refine lR.go rfl (fun i u=>?_);have c:H.ok (σ.set bs (.vec 34 4 (aK s'))):=vK i bs _ _ _;apply bl;simp only[go_sem,c227];apply W.aD (aF _ _)
 case hc=>
  (apply ab.aj;simp only[go_sem]);(apply ab.call (p _ (hG j _))<;>try rfl);(apply ab.aj;simp only[go_sem]);(apply ab.call (r _ (hG j _))<;>try rfl);(apply ab.aj;simp only[go_sem]);exact ab.nil
 apply bl;simp only[go_sem,g,h];refine wN ?_;simp only[go_sem,g,h];refine wN ?_;simp only[go_sem,g,h];refine wN ?_;simp only[go_sem,g,h];refine wY ?_;simp only[go_sem];(refine db (t _) ?_;simp only[go_sem]);exact wF c
def X1(w0:World){s:List aa}{a b x y:aa}(bs:Nat)(σ:H)(i:σ[bs]?=some (.vec 34 4 (aK s)))
  (r:∀σ,σ[bs]?=some (.vec 34 4 (aK s))->DC prog w0 191 [.vec bs s.length,a.v] σ (Same x.v σ)) (t:∀σ,σ[bs]?=some (.vec 34 4 (aK s))->DC prog w0 191 [.vec bs s.length,b.v] σ (Same y.v σ)) (c:(x.k==1)=false) (e:(y.k==1)=false) (hc:¬(x.k=y.k/\x.name=y.name/\x.l.length=y.l.length)):DC prog w0 227 [.vec bs s.length,a.v,b.v] σ (Same (.au [.ae [],I 60]) σ):=by
 refine lR.go rfl (fun g w=>?_);by_cases j:x.k=y.k
 ·have c1:(x.k==y.k)=true:=by simp[j]
  by_cases p:x.name=y.name
  ·have u:(x.name==y.name)=true:=by simp[p]
   have A:¬x.l.length=y.l.length:=fun h=>hc ⟨j,p,h⟩;have c3:((x.l.length:Int)==(y.l.length:Int))=false:=by simp;omega
   clear hc j p A;apply bl;simp only[go_sem,c227];apply W.aD (aF _ _)
   case hc=>
    (apply ab.aj;simp only[go_sem]);(apply ab.call (r _ (hG i _))<;>try rfl);(apply ab.aj;simp only[go_sem]);(apply ab.call (t _ (hG i _))<;>try rfl);(apply ab.aj;simp only[go_sem]);exact ab.nil
   apply bl;simp only[go_sem,c,e];refine wN ?_;simp only[go_sem,c,e];refine wN ?_;simp only[go_sem,c,e];refine wN ?_;simp only[go_sem,c,e];refine wN ?_;simp only[go_sem,bne,c1,u,c3];refine wY ?_;simp only[go_sem];exact wF g
  ·have u:(x.name==y.name)=false:=by simp[p]
   clear hc j p;apply bl;simp only[go_sem,c227];apply W.aD (aF _ _)
   case hc=>
    (apply ab.aj;simp only[go_sem]);(apply ab.call (r _ (hG i _))<;>try rfl);(apply ab.aj;simp only[go_sem]);(apply ab.call (t _ (hG i _))<;>try rfl);(apply ab.aj;simp only[go_sem]);exact ab.nil
   apply bl;simp only[go_sem,c,e];refine wN ?_;simp only[go_sem,c,e];refine wN ?_;simp only[go_sem,c,e];refine wN ?_;simp only[go_sem,c,e];refine wN ?_;simp only[go_sem,bne,c1,u];refine wY ?_;simp only[go_sem];exact wF g
 ·have c1:(x.k==y.k)=false:=by simp[j]
  clear hc j;apply bl;simp only[go_sem,c227];apply W.aD (aF _ _)
  case hc=>
   (apply ab.aj;simp only[go_sem]);(apply ab.call (r _ (hG i _))<;>try rfl);(apply ab.aj;simp only[go_sem]);(apply ab.call (t _ (hG i _))<;>try rfl);(apply ab.aj;simp only[go_sem]);exact ab.nil
  apply bl;simp only[go_sem,c,e];refine wN ?_;simp only[go_sem,c,e];refine wN ?_;simp only[go_sem,c,e];refine wN ?_;simp only[go_sem,c,e];refine wN ?_;simp only[go_sem,bne,c1];refine wY ?_;simp only[go_sem];exact wF g
def X2(w0:World){s:List aa}{a b x y:aa}(bs:Nat)(σ:H)(X:σ[bs]?=some (.vec 34 4 (aK s)))
  (hx:∀σ,σ[bs]?=some (.vec 34 4 (aK s))->DC prog w0 191 [.vec bs s.length,a.v] σ (Same x.v σ)) (hy:∀σ,σ[bs]?=some (.vec 34 4 (aK s))->DC prog w0 191 [.vec bs s.length,b.v] σ (Same y.v σ)) (A:(x.k==1)=false) (D:(y.k==1)=false) (h1:x.k=y.k) (h2:x.name=y.name) (Y:x.l.length=y.l.length) (hn:x.l.length<=1000000):DC prog w0 227 [.vec bs s.length,a.v,b.v] σ (Same (.au [iv σ.length (dv x.l y.l),I 0]) (iw σ (dv x.l y.l))):=by
 have c1:(x.k==y.k)=true:=by simp[h1]
 have c2:(x.name==y.name)=true:=by simp[h2]
 have c3:((x.l.length:Int)==(y.l.length:Int))=true:=by simp[Y]
 have c:=tf x.l y.l Y;by_cases h0:x.l=[]
 ·have O:dv x.l y.l=[]:=fM (by rw[c,h0];rfl);have hl0:x.l.length=0:=by rw[h0];rfl
  unfold iv iw;rw[if_pos O,if_pos O];refine lR.go rfl (fun G hsz=>?_);have p:¬((0:Int)<(x.l.length:Int)):=by omega
  clear h1 h2 Y h0 O c;apply bl;simp only[go_sem,c227];apply W.aD (aF _ _)
  case hc=>
   (apply ab.aj;simp only[go_sem]);(apply ab.call (hx _ (hG X _))<;>try rfl);(apply ab.aj;simp only[go_sem]);(apply ab.call (hy _ (hG X _))<;>try rfl);(apply ab.aj;simp only[go_sem]);exact ab.nil
  apply bl;simp only[go_sem,A,D];refine wN ?_;simp only[go_sem,A,D];refine wN ?_;simp only[go_sem,A,D];refine wN ?_;simp only[go_sem,A,D];refine wN ?_;simp only[go_sem,bne,c1,c2,c3];refine wN ?_;simp only[go_sem];refine W.aY (α:=Unit) (fun _=>True) (fun _=>⟨(((base.put (some 8) (.ae [])).put (some 96) (I (x.l.length:Int))).put (some 97) (I 0)),σ⟩) (fun _=>0) () trivial ?_ (fun _ _=>?_)
  ·exact wD G
  apply bl;simp only[go_sem,p];refine wN ?_;simp only[go_sem];exact wF G
 ·have g:0<x.l.length:=iX.2 h0;have O:dv x.l y.l≠[]:=fun e=>by rw[e]at c;simp at c;omega
  unfold iv iw;rw[if_neg O,if_neg O];refine DC.Ji ?_;refine lR.cl rfl (fun G hsz=>?_);have E:∀i (P:i<x.l.length) (Q:i<y.l.length),aU ((dv x.l y.l).take (i+1))=aU ((dv x.l y.l).take i)++bR (x.l[i],y.l[i]):=fun i P Q=>by
   have R:i<(dv x.l y.l).length:=by omega
   rw[eW R,vL,vM _ _ _ R P Q];simp[aU]
  have T:∀i,i<=x.l.length->(aU ((dv x.l y.l).take i)).length=i*8:=fun i P=>by rw[iS,dE];omega
  have U:(dv x.l y.l).take x.l.length=dv x.l y.l:=by rw[<-c,jA]
  generalize dv x.l y.l=Z at*
  apply bl;simp only[go_sem,c227];apply W.aD (aF _ _)
  case hc=>
   (apply ab.aj;simp only[go_sem]);(apply ab.call (hx _ (hG X _))<;>try rfl);(apply ab.aj;simp only[go_sem]);(apply ab.call (hy _ (hG X _))<;>try rfl);(apply ab.aj;simp only[go_sem]);exact ab.nil
  apply bl;simp only[go_sem,A,D];refine wN ?_;simp only[go_sem,A,D];refine wN ?_;simp only[go_sem,A,D];refine wN ?_;simp only[go_sem,A,D];refine wN ?_;simp only[go_sem,bne,c1,c2,c3];refine wN ?_;simp only[go_sem];refine W.aY (α:=Option (Nat×H)) (fun o=>match o with|none=>True|some (i,_)=>1<=i/\i<=x.l.length) (fun o=>match o with
   |none=>⟨(((((base.put (some 4) (.ptr σ.length 0)).put (some 5) (.ptr (σ.length+1) 0)).put (some 8) (.ae [])).put (some 96) (I (x.l.length:Int))).put (some 97) (I 0)),σ++[.cells x.v.af,.cells y.v.af]⟩
   |some (i,J)=>⟨(((((base.put (some 4) (.ptr σ.length 0)).put (some 5) (.ptr (σ.length+1) 0)).put (some 8) (.vec (σ.length+(J.length+2)) i)).put (some 96) (I (x.l.length:Int))).put (some 97) (I (i:Int))),σ++ .cells x.v.af:: .cells y.v.af::(J++[.vec 235 8 (aU (Z.take i))])⟩) (fun o=>match o with|none=>x.l.length+1|some (i,_)=>x.l.length-i) none trivial ?_ (fun o ho=>?_)
  ·dsimp only
   exact wV
  cases o with
  |none=>
   dsimp only
   have p:((0:Int)<(x.l.length:Int)):=by omega
   have z2:((0:Int)<(y.l.length:Int)):=by omega
   have L:x.l[0]?=some x.l[0]:=aN g;have M:y.l[0]?=some y.l[0]:=aN (by omega);have j:=E 0 g (by omega);rw[show aU (Z.take 0)=[]from rfl,dK]at j;have hw:aE.wrap (0+1)=((1:Nat):Int):=by decide
   generalize x.l[0]=u at*;generalize y.l[0]=v at*
   apply bl;simp only[go_sem,p];refine wY ?_;simp only[go_sem];apply W.aD (aF _ _)
   case hc=>
    iterate 13 (apply ab.quiet (dN.step rfl (by(simp only[go_sem,p,z2,L,M,bu]);rfl));case hp=>(intro τ hτ;simp at hτ))
    apply ab.bL
    case h=>exact fh.vec (x:=.t 100) (y:=.t 112) (e:=235) (size:=8) (bytes:=112) (olds:=[]) (news:=[bR (u,v)]) rfl rfl rfl rfl ⟨by simp,(fun r j=>by cases j),(fun r j=>by simp at j;subst j;rfl),by simp,by simp⟩
    (apply ab.aj;simp only[go_sem,bC,dS,kO,bR]);exact ab.nil
   apply bl;simp only[go_sem,hw];refine .inv ⟨some (1,[]),⟨aA _,g⟩,by dsimp only;omega,?_⟩;dsimp only
   rw[j];exact wV
  |some q=>
   obtain⟨i,J⟩:=q;obtain⟨hi1,P⟩:=ho;dsimp only
   have e1:∀w:ad,(J++[w])[J.length]?=some w:=fun w=>by simp
   have e2:∀w z:ad,(J++[w]).set J.length z=J++[z]:=fun w z=>by simp
   have hFl:=T i P;by_cases N:i<x.l.length
   ·have p:((i:Int)<(x.l.length:Int)):=by omega
    have z2:((i:Int)<(y.l.length:Int)):=by omega
    have z0:(0:Int)<=(i:Int):=by omega
    have L:x.l[i]?=some x.l[i]:=aN N;have M:y.l[i]?=some y.l[i]:=aN (by omega);have j:=E i N (by omega);have hw:aE.wrap ((i:Int)+1)=((i+1:Nat):Int):=by rw[a7]<;>omega
    have b1:(i+1)*112<=140737488355328:=by omega
    have b2:i+1<=140737488355328:=by omega
    have b3:i<=140737488355327:=by omega
    have htk:dj (i*8) (aU (Z.take i))=aU (Z.take i):=dT (by omega);have hle:i*8<=i*8:=aA _;have hne:∀r:List C,([r]=[])=False:=fun r=>by simp
    simp only[bR]at j;generalize x.l[i]=u at*;generalize y.l[i]=v at*;generalize aU (Z.take i)=F at*
    apply bl;simp only[go_sem,p];refine wY ?_;simp only[go_sem];apply W.aD (aF _ _)
    case hc=>
     (apply ab.aj;simp only[go_sem,z0,p,z2,L,M,e1,e2,hFl,htk,b1,b2,b3,hle,hne,ne_eq,not_false_eq_true,dS,kO]);exact ab.nil
    apply bl;simp only[go_sem,hw];refine .inv ⟨some (i+1,J++[.gone]),⟨by omega,N⟩,by dsimp only;omega,?_⟩;dsimp only
    rw[j];simp only[go_sem,bC];exact wV
   obtain rfl:i=x.l.length:=by omega
   have p:¬((x.l.length:Nat):Int)<((x.l.length:Nat):Int):=by omega
   apply bl;simp only[go_sem,p];refine wN ?_;simp only[go_sem];refine W.ret ⟨_,_,(by simp only[aX,zX,go_sem];rfl),.rfl _,?_⟩;rw[U];exact⟨.cells x.v.af:: .cells y.v.af::J,[],by rw[c];rfl,by simp[aa.v,V.af,aM]⟩
end
end Go.Proofs.YtdlkenpilhakfaaGreatDoor
namespace Go.Lamb
open Go Go.RowKit
def oc{s:List aa}(c:∀t∈s,ay s.length t){t u:aa}{n:Nat}(r:eP s t u n):ay s.length t->ay s.length u/\bJ s u=false:=by
 induction r with
 |stop h=>exact fun b=>⟨b,h⟩
 |go h r e=>
  intro b;obtain⟨h0,g,_⟩:=b.var (fk h);exact e (c _ (iN h0 g))
def Ei{α:Type}{l:List α}{i:Nat}{x:α}(h:l[i]?=some x):l.set i x=l:=by
 apply List.ext_getElem?;intro j;rw[List.getElem?_set];split
 ·rename_i e;subst e;split
  ·exact h.symm
  ·rename_i b;rw[List.getElem?_eq_none (by omega)]at h;cases h
 ·rfl
end Go.Lamb
namespace Go.Proofs.YtdlkenpilhakfaaGreatDoor
open Go.RowKit Go.Lamb
def X3(w0:World){N:Nat}{s:List aa}(r:bO N s)(G:1<=N)(hN:N<=1000000)(J:s.length<=1000000){a b:aa}(hp:de s.length N (a,b)){l:List (aa×aa)}{e:Int}{s':List aa}(h:kp s a b l e s')
  (bs:Nat) (σ:H) (c:σ[bs]?=some (.vec 34 4 (aK s))):
  DC prog w0 227 [.vec bs s.length,a.v,b.v] σ (Same (.au [iv σ.length l,I e]) (iw (σ.set bs (.vec 34 4 (aK s'))) l)):=by
 obtain⟨ha,A,na,nb⟩:=hp;have M:=(aI.1 c).1;have u:∀x,ay s.length x->bJ s x=true->cq s x.n∈s/\ay s.length (cq s x.n):=fun x F J=>by
  obtain⟨h0,U,_⟩:=F.var (fk J);exact⟨iN h0 U,r.right.holds _ (iN h0 U)⟩
 cases h with
 |@mk x y n m l e s' O P h=>
  obtain⟨F,sx⟩:=oc r.right.holds O ha;obtain⟨Q,sy⟩:=oc r.right.holds P A;have X:=kX r.size O u ha na;have ny:=kX r.size P u A nb;have D:=fun σ c=>z6 w0 s r.right.holds a x n O ha bs σ c;have E:=fun σ c=>z6 w0 s r.right.holds b y m P A bs σ c;have key:∀(v:Int) (t:aa) (Y:ay s.length t) (hn:aw t<=N) (h0:0<=v) (Z:v<s.length) (e:Int) (s':List aa) (w:jK s v t e s') (L:H),DC prog w0 259 [.vec bs s.length,I v,t.v] (σ++L) (Same (I e) (σ.set bs (.vec 34 4 (aK s'))++L)):=fun v t Y hn h0 Z e s' w L=>by
   have:=XV w0 r hN v t Y hn h0 Z e s' w bs (σ++L) (hG c L);rwa [ly _ _ M]at this
  have j:iv σ.length []= .ae []:=rfl;have p:∀R:H,iw R []=R:=fun R=>rfl;rcases h with⟨g,i,T,rfl,rfl,rfl⟩|⟨g,i,T,rfl,w⟩|⟨g,i,rfl,w⟩|⟨g,i,rfl,w⟩|⟨g,i,hc,rfl,rfl,rfl⟩|⟨g,i,⟨c1,c2,c3⟩,rfl,rfl,rfl⟩
  ·rw[j,p,Ei c];exact XX w0 bs σ c D E (by simp[g]) (by simp[i]) (by simp[T])
  ·obtain⟨x0,x1,_⟩:=F.var g;obtain⟨y0,y1,_⟩:=Q.var i;rw[j,p];exact XY w0 bs σ c D E (by simp[g]) (by simp[i]) (by simp[T]) e s' (key _ _ (ij (v:=min x.n y.n) (by omega) (by omega) J) (by rw[ct];simp[aJ,aa.l,bE];exact G) (by omega) (by omega) e s' w)
  ·obtain⟨x0,x1,_⟩:=F.var g;rw[j,p];exact XZ w0 bs σ c D E (by simp[g]) (by simp[i]) e s' (key _ _ Q ny x0 x1 e s' w)
  ·obtain⟨y0,y1,_⟩:=Q.var i;rw[j,p];exact X0 w0 bs σ c D E (by simp[g]) (by simp[i]) e s' (key _ _ F X y0 y1 e s' w)
  ·rw[j,p,Ei c];exact X1 w0 bs σ c D E (by simp[g]) (by simp[i]) hc
  ·rw[Ei c];exact X2 w0 bs σ c D E (by simp[g]) (by simp[i]) c1 c2 c3 (by have:=lj x.l;rw[ct]at X;omega)
end Go.Proofs.YtdlkenpilhakfaaGreatDoor
namespace Go.Lamb
open Go Go.RowKit
def eE{α:Type}(l:List α)(i:Nat):List α:=List.ofFn (n:=l.length) fun j=>if j.1<i\/l.length-i<=j.1 then l[l.length-1-j.1]'(by omega)else l[j.1]
def lS{α:Type}(l:List α)(i:Nat):(eE l i).length=l.length:=by unfold eE;simp
def th{α:Type}(l:List α)(i j:Nat)(c:j<(eE l i).length)(b:j<l.length):(eE l i)[j]=if j<i\/l.length-i<=j then l[l.length-1-j]'(by omega)else l[j]:=by
 simp only[eE,List.getElem_ofFn]
def X4{α:Type}(l:List α):eE l 0=l:=by
 apply tU (lS l 0);intro j b c;rw[th l 0 j b c,if_neg (by omega)]
def X5{α:Type}(l:List α)(i:Nat)(h:l.length<=2*i+1):eE l i=l.reverse:=by
 apply tU (by rw[lS,Bj]);intro j b e;have c:j<l.length:=by rw[lS]at b;exact b
 rw[th l i j b c,List.getElem_reverse];split
 ·rfl
 ·congr 1;omega
def X6{α:Type}(l:List α)(i:Nat)(h:2*i+1<l.length):eE l (i+1)=((eE l i).set i (l[l.length-1-i]'(by omega))).set (l.length-1-i) (l[i]'(by omega)):=by
 apply tU (by rw[bz,bz,lS,lS]);intro j b r;have c:j<l.length:=by rw[lS]at b;exact b
 rw[th l (i+1) j b c,Bk,Bk];by_cases e:l.length-1-i=j
 ·rw[if_pos e,if_pos (by omega)];congr 1;omega
 ·rw[if_neg e];by_cases g:i=j
  ·subst g;rw[if_pos rfl,if_pos (by omega)]
  ·rw[if_neg g,th l i j (by rw[lS];exact c) c];by_cases p:j<i\/l.length-i<=j
   ·rw[if_pos p,if_pos (by omega)]
   ·rw[if_neg p,if_neg (by omega)]
def M2{l:List (aa×aa)}{i:Nat}(b:i<l.length)(p:aa×aa):dj (i*8) (aU l)++ .int .i64 p.1.k:: .str p.1.name:: .int .i64 p.1.n:: .sl (p.1.l.map aa.cs):: .int .i64 p.2.k:: .str p.2.name:: .int .i64 p.2.n:: .sl (p.2.l.map aa.cs)::gh (i*8+8) (aU l)=aU (l.set i p):=by
 have h:=M0 (te l) (i:=i) (by rw[bY];exact b) (bR p) rfl;rw[dq]at h;unfold aU;rw[List.map_set];exact h
end Go.Lamb
namespace Go.Proofs.YtdlkenpilhakfaaGreatDoor
open Go.RowKit Go.Lamb
section
attribute [local go_sem] aa.v aa.aG aO aQ aL aH aM
def vN(w0:World)(l:List (aa×aa))(hl:l.length<=1000000)(b:Nat)(σ:H)(N:σ[b]?=some (.vec 235 8 (aU l))):
  DC prog w0 180 [.vec b l.length] σ (Same (.au []) (σ.set b (.vec 235 8 (aU l.reverse)))):=by
 refine D4.go rfl (fun A T=>?_);apply bl;simp only[go_sem,zU];have D:=(aI.1 N).1;refine W.aY (α:=Nat) (fun i=>i=0\/2*i<=l.length) (fun i=>⟨(((base.put (some 0) (.vec b l.length)).put (some 2) (I (i:Int))).put (some 3) (I ((l.length:Int)-1-i))),σ.set b (.vec 235 8 (aU (eE l i)))⟩) (fun i=>l.length-i) 0 (.inl rfl) ?_ (fun i hi=>?_)
 ·rw[X4,qp N];have U:aE.wrap ((l.length:Int)-1)=(l.length:Int)-1-((0:Nat):Int):=by rw[a7]<;>omega
  try rw[U]
  exact wV
 by_cases hc:2*i+1<l.length
 ·have E:(i:Int)<(l.length:Int)-1-i:=by omega
  have F:=X6 l i hc;have e:i<(eE l i).length:=by rw[lS];omega
  have c:l.length-1-i<(eE l i).length:=by rw[lS];omega
  have g1:=th l i i e (by omega);have G:=th l i (l.length-1-i) c (by omega);rw[if_neg (by omega)]at g1 G;rw[<-g1,<-G]at F;have O:=M1 e;have J:=M1 c;obtain⟨j,X⟩:∃j:Nat,j=l.length-1-i:=⟨_,rfl⟩;have Y:(l.length:Int)-1-i=(j:Int):=by omega
  have Z:aE.wrap ((i:Int)+1)=((i+1:Nat):Int):=by rw[a7]<;>omega
  have w2:aE.wrap ((j:Int)-1)=(l.length:Int)-1-((i+1:Nat):Int):=by rw[a7]<;>omega
  have P:=iS (eE l i);rw[lS]at P;simp only[<-X]at F c G J;have s1:=M2 e (eE l i)[j];have L:j<((eE l i).set i (eE l i)[j]).length:=by rw[bz];exact c
  have M:=M2 L (eE l i)[i];rw[<-F]at M;have g:=iS ((eE l i).set i (eE l i)[j]);rw[bz,lS]at g;rw[Y];have Q:(i:Int)<(j:Int):=by omega
  clear E;have h:(i:Int)<(l.length:Int):=by omega
  have p:(j:Int)<(l.length:Int):=by omega
  have p1:(0:Int)<=(i:Int):=by omega
  have p2:(0:Int)<=(j:Int):=by omega
  have b1:i*8+8<=l.length*8:=by omega
  have b2:j*8+8<=l.length*8:=by omega
  simp only[bR,ck,cP]at O J;generalize aU ((eE l i).set i (eE l i)[j])=F2 at*;generalize (eE l i)[i]=u at*;generalize (eE l i)[j]=v at*;obtain⟨R,t⟩:∃R,R=aU (eE l (i+1)):=⟨_,rfl⟩;rw[<-t]at M;generalize aU (eE l i)=F1 at*
  have hg:=fun x=>HU (σ:=σ) (r:=b) x D;apply bl;simp only[go_sem,Q];refine wY ?_;simp only[go_sem];apply W.aD (aF _ _)
  case hc=>
   (apply ab.aj;simp only[go_sem,hg,Q,h,p,p1,p2,O,J,P,b1,b2,s1,M,g]);exact ab.nil
  apply bl;simp only[go_sem,Z,w2];refine .inv ⟨i+1,.inr (by omega),by omega,?_⟩;rw[<-t];exact wV
 have E:¬(i:Int)<(l.length:Int)-1-i:=by omega
 apply bl;simp only[go_sem,E];refine W.no rfl ?_;have w:H.ok (σ.set b (.vec 235 8 (aU l.reverse))):=vK A b _ _ _;rw[X5 l i (by omega)];apply bl;simp only[go_sem];exact .done (Fin.lK (vs:=[]) w (bz ..) rfl (.rfl _) (by simp[aT,B6]) (cd _).symm)
end
end Go.Proofs.YtdlkenpilhakfaaGreatDoor
namespace Go.Lamb
open Go Go.RowKit
def M3{s s':List aa}{a b:aa}{l:List (aa×aa)}{e:Int}(h:kp s a b l e s')(c:e≠0):l=[]:=by
 cases h with
 |mk g i h=>
  rcases h with⟨_,_,_,rfl,_⟩|⟨_,_,_,rfl,_⟩|⟨_,_,rfl,_⟩|⟨_,_,rfl,_⟩|⟨_,_,_,rfl,_⟩|⟨_,_,_,_,rfl,_⟩<;>first|rfl|exact absurd rfl c
section
variable {P:Program} {w0:World} {f:FuncId} {args:List V} {σ:H}
def DC.X7{v:V}{c:H}{q:Nat}(hd:DC P w0 f args c (fun v' h=>v'=v/\∃Y,h=σ.set q Y)):DC P w0 f args c (Same v (σ.set q .gone)):=by
 refine⟨hd.enters,fun κ w vs e g=>(hd.run κ w vs e g).mono ?_⟩;rintro u w' ⟨v,d0,i,κ',rfl,⟨rfl,Y,rfl⟩,j,p,r⟩;refine⟨v,d0,_,κ',rfl,⟨rfl,rfl⟩,j,p.uJ ⟨by simp,fun b A t=>?_⟩,r⟩;rw[Bk,Bk];split
 ·exact .gone _
 ·exact .rfl _
end
def ti(l:List (aa×aa))(p:aa×aa)(X:List C):aU (l++[p])++X=aU l++(.int .i64 p.1.k:: .str p.1.name:: .int .i64 p.1.n:: .sl (p.1.l.map aa.cs):: .int .i64 p.2.k:: .str p.2.name:: .int .i64 p.2.n:: .sl (p.2.l.map aa.cs)::X):=by
 rw[vL,dq];rfl
def M4(l:List (aa×aa)):rowsOf 8 l.length (aU l)=l.map bR:=by
 have:=qo (te l);rw[bY]at this;exact this
end Go.Lamb
namespace Go.Proofs.YtdlkenpilhakfaaGreatDoor
open Go.RowKit Go.Lamb
section
attribute [local go_sem] aa.v aa.aG aO aQ aL aH aM
def Ej{s:List aa}{N:Nat}(b:bO N s){v:Int}(h0:0<=v)(h:v<s.length)(g:bJ s (aJ v)=false){t:aa}(i:ay s.length t)(hn:aw t<=N){e:Int}{s':List aa}(j:jK s v t e s'):bO N s'/\s'.length=s.length:=by
 cases j with
 |yes r=>exact⟨b,rfl⟩
 |no r=>
  refine⟨⟨Ir b.right h0 h g i r,fun u c=>?_⟩,bz ..⟩;rcases mr c with c|rfl
  ·exact b.size u c
  ·exact hn
def z8{s:List aa}{N:Nat}(c:bO N s)(Z:1<=N)(F:s.length<=1000000){a b:aa}(hp:de s.length N (a,b)){l:List (aa×aa)}{e:Int}{s':List aa}(h:kp s a b l e s'):bO N s'/\s'.length=s.length/\(∀p∈l,de s.length N p)/\l.length<=N:=by
 obtain⟨ha,J,na,nb⟩:=hp;have j:∀x,ay s.length x->bJ s x=true->cq s x.n∈s/\ay s.length (cq s x.n):=fun x w F=>by
  obtain⟨h0,L,_⟩:=w.var (fk F);exact⟨iN h0 L,c.right.holds _ (iN h0 L)⟩
 cases h with
 |@mk x y n m l e s' M O h=>
  obtain⟨w,P⟩:=oc c.right.holds M ha;obtain⟨E,Q⟩:=oc c.right.holds O J;have G:=kX c.size M j ha na;have R:=kX c.size O j J nb;rcases h with⟨g,i,he,rfl,rfl,rfl⟩|⟨g,i,he,rfl,A⟩|⟨g,i,rfl,A⟩|⟨g,i,rfl,A⟩|⟨g,i,hc,rfl,rfl,rfl⟩|⟨g,i,⟨c1,c2,c3⟩,rfl,rfl,rfl⟩
  ·exact⟨c,rfl,(fun p hp=>by cases hp),be _⟩
  ·obtain⟨T,U,_⟩:=w.var g;obtain⟨X,Y,_⟩:=E.var i;have r:bJ s (aJ x.n)=false:=by rw[<-lP g];exact P
   have t:bJ s (aJ y.n)=false:=by rw[<-lP i];exact Q
   have sm:bJ s (aJ (max x.n y.n))=false:=by
    rcases Int.le_total x.n y.n with h|h
    ·rw[Int.max_eq_right h];exact t
    ·rw[Int.max_eq_left h];exact r
   have:=Ej c (v:=max x.n y.n) (by omega) (by omega) sm (ij (v:=min x.n y.n) (by omega) (by omega) F) (by rw[ct];simp[aJ,aa.l,bE];exact Z) A;exact⟨this.1,this.2,(fun p hp=>by cases hp),be _⟩
  ·obtain⟨T,U,_⟩:=w.var g;have r:bJ s (aJ x.n)=false:=by rw[<-lP g];exact P
   have:=Ej c T U r E R A;exact⟨this.1,this.2,(fun p hp=>by cases hp),be _⟩
  ·obtain⟨X,Y,_⟩:=E.var i;have t:bJ s (aJ y.n)=false:=by rw[<-lP i];exact Q
   have:=Ej c X Y t w G A;exact⟨this.1,this.2,(fun p hp=>by cases hp),be _⟩
  ·exact⟨c,rfl,(fun p hp=>by cases hp),be _⟩
  ·refine⟨c,rfl,yx _ _ (fun u D=>⟨w.dA g D,?_⟩) (fun u D=>⟨E.dA i D,?_⟩),?_⟩
   ·have:=jm D;rw[ct]at G;omega
   ·have:=jm D;rw[ct]at R;omega
   ·rw[tf _ _ c3];have:=lj x.l;rw[ct]at G;omega
def M5(w0:World)(σ:H):DC prog w0 180 [.ae []] σ (Same (.au []) σ):=by
 refine D4.go rfl (fun b c=>?_);have e:aE.wrap (0-1)=-1:=by decide
 apply bl;simp only[go_sem,zU,e];refine W.aY (α:=Unit) (fun _=>True) (fun _=>⟨(((base.put (some 0) (.ae [])).put (some 2) (I 0)).put (some 3) (I (-1))),σ⟩) (fun _=>0) () trivial ?_ (fun _ _=>?_)
 ·exact wV
 have g:¬(0:Int)< -1:=by decide
 apply bl;simp only[go_sem,g];refine wN ?_;simp only[go_sem];exact .done (Fin.lK (vs:=[]) b rfl rfl (.rfl _) (by simp[aT,B6]) (cd _).symm)
structure X8 (L:Nat) (N:Nat) (e:Int) (s':List aa) (n:Nat) (s:List aa) (st:List (aa×aa)) (Bs:List aa->ad->H) (Y:ad) (J:H) (q:Nat) (X:List C):Prop where
 run:ee n s st e s'
 right:bO N s
 len:s.length=L
 holds:∀p∈st,de L N p
 X9:st.length+n*1000000<=4097000000
 at_:∀s,(Bs s Y++J)[q]?=some (.vec 235 8 (aU st++X))
 off:∃Y' J',(∀s,(Bs s Y++J).set q .gone=Bs s Y'++J')/\J'.length=J.length/\(∀cs tg,Y'≠ .cells cs tg)
 top:∀cs tg,Y≠ .cells cs tg
structure Ya where
 n:Nat
 s:List aa
 st:List (aa×aa)
 Y:ad
 J:H
 q:Nat
 X:List C
def M6(w0:World){N:Nat}{s0:List aa}(hR:bO N s0)(hN1:1<=N)(hN:N<=1000000)(hs:s0.length<=1000000){st0:List (aa×aa)}(hst:∀p∈st0,de s0.length N p)(hfew:st0.length<=1000000){e:Int}{s':List aa}(h:ee 4096 s0 st0 e s')
  (bs U:Nat) (u:bs≠U) (σ:H) (hb:σ[bs]?=some (.vec 34 4 (aK s0))) (hq0:σ[U]?=some (.vec 235 8 (aU st0))):
  DC prog w0 182 [.vec bs s0.length,.vec U st0.length] σ (Same (I e) ((σ.set bs (.vec 34 4 (aK s'))).set U .gone)):=by
 refine DC.X7 ?_;refine D5.go rfl (fun hok0 hsz=>?_);obtain⟨L,hL⟩:∃L,L=s0.length:=⟨_,rfl⟩;rw[<-hL]at hst hs⊢;have hbl:=(aI.1 hb).1;have hql:=(aI.1 hq0).1;obtain⟨Bs,E,i,hBq,hBb,hBsq,hBsb⟩:∃Bs:List aa->ad->H,(∀s Y,Bs s Y=(σ.set bs (.vec 34 4 (aK s))).set U Y)/\(∀s Y,(Bs s Y).length=σ.length)/\(∀s Y (J:H),(Bs s Y++J)[U]?=some Y)/\(∀s Y (J:H),(Bs s Y++J)[bs]?=some (.vec 34 4 (aK s)))
   /\(∀s Y Z (J:H),(Bs s Y++J).set U Z=Bs s Z++J)/\(∀s s1 Y (J:H),(Bs s Y++J).set bs (.vec 34 4 (aK s1))=Bs s1 Y++J):=by
  refine⟨fun s Y=>(σ.set bs (.vec 34 4 (aK s))).set U Y,fun s Y=>rfl,fun s Y=>by simp,fun s Y J=>?_,fun s Y J=>?_,fun s Y Z J=>?_,fun s s1 Y J=>?_⟩
  ·rw[cr (by simpa using hql),bW (by simpa using hql)]
  ·rw[cr (by simpa using hbl),List.getElem?_set_ne (by omega),bW hbl]
  ·rw[ly _ _ (by simpa using hql),rS]
  ·rw[ly _ _ (by simpa using hbl),List.set_comm _ _ (by omega),rS]
 have A:∀s Y (J:H) k,(Bs s Y++J)[σ.length+k]?=J[k]?:=fun s Y J k=>by
  have:=bx (Bs s Y) J k;rwa [i]at this
 have hg0:∀s Y (J:H),(Bs s Y++J)[σ.length]?=J[0]?:=fun s Y J=>A s Y J 0;have j:∀s Y (J:H) k x,(Bs s Y++J).set (σ.length+k) x=Bs s Y++J.set k x:=fun s Y J k x=>by
  have:=cR (Bs s Y) J k x;rwa [i]at this
 have G:∀(s:List aa) (p:aa×aa) (l:List (aa×aa)) (e:Int) (s1:List aa) (r:bO N s) (hl:s.length=L) (hp:de L N p) (h:kp s p.1 p.2 l e s1) (Y:ad) (J:H),DC prog w0 227 [.vec bs L,p.1.v,p.2.v] (Bs s Y++J) (Same (.au [iv (σ.length+J.length) l,I e]) (iw (Bs s1 Y++J) l)):=fun s p l e s1 r hl hp h Y J=>by
  subst hl;have:=X3 w0 r hN1 hN hs hp h bs (Bs s Y++J) (hBb s Y J);rwa [hBsb,bC,i]at this
 have hfin:∀(s2:List aa) (Y:ad),(∀cs tg,Y≠ .cells cs tg)->H.ok (Bs s2 Y):=fun s2 Y hY B hB cs tg hc x hx=>by
  rw[E]at hB;rw[i];rcases mr hB with hB|rfl
  ·rcases mr hB with hB|rfl
   ·exact hok0 B hB cs tg hc x hx
   ·cases hc
  ·exact absurd hc (hY cs tg)
 apply bl;simp only[go_sem,c182];refine W.aY (α:=Ya) (fun x=>X8 L N e s' x.n x.s x.st Bs x.Y x.J x.q x.X) (fun x=>⟨((((base.put (some 0) (.vec bs L)).put (some 1) (.vec x.q x.st.length)).put (some 4) (I 0)).put (some 5) (I (x.n:Int))),Bs x.s x.Y++x.J⟩) (fun x=>x.n) ⟨4096,s0,st0,.vec 235 8 (aU st0),[],U,[]⟩ ⟨h,hR,hL.symm,hst,(by dsimp only;omega),(fun s=>by dsimp only;rw[hBq,cd]),⟨.gone,[],fun s=>hBsq _ _ _ _,rfl,fun _ _ h=>by cases h⟩,fun _ _ h=>by cases h⟩ ?_ (fun x hx=>?_)
 ·dsimp only
  rw[cd,E,qp hb,qp hq0];exact wV
 obtain⟨n,s,st,Y,J,q,X⟩:=x;obtain⟨h1,h2,h3,h4,h5,h6,⟨Y',J',h8,h9,h10⟩,h7⟩:=hx;dsimp only at h1 h2 h3 h4 h5 h6 h7 h8 h9 h10⊢;have D:∀s L,(Bs s Y++(J++L))[q]?=some (.vec 235 8 (aU st++X)):=fun s L=>by
  have:=hG (h6 s) L;rwa [dq]at this
 have M:∀s L,(Bs s Y++(J++L)).set q .gone=Bs s Y'++(J'++L):=fun s L=>by
  have:=hS (h6 s) .gone L;rwa [dq,h8 s,dq]at this
 have ok1:=fun s2=>hfin s2 Y h7;cases h1 with
 |done=>
  have z1:¬((0:Int)<0):=by decide
  apply bl;simp only[go_sem,z1];refine wN ?_;simp only[go_sem];refine W.ret (Fin.gen (ok1 s') ?_ (by simp only[aX,pE,go_sem];rfl) (.rfl _) (.c _) rfl ?_)
  ·exact i _ _
  ·exact⟨rfl,Y,E _ _⟩
 |out u=>
  have w:0<st.length:=iX.2 u;have z1:((0:Int)<(st.length:Int)):=by omega
  apply bl;simp only[go_sem,z1];refine wY ?_;simp only[go_sem];refine wY ?_;simp only[go_sem];refine W.ret (Fin.gen (ok1 s') ?_ (by simp only[aX,pE,go_sem];rfl) (.rfl _) (.c _) rfl ?_)
  ·exact i _ _
  ·exact⟨rfl,Y,E _ _⟩
 |@fail n _ _ st l p _ hS he=>
  have hlnil:=M3 hS he;subst hlnil;have g:=fun J=>G s p [] e s' h2 h3 (h4 p (by simp)) hS Y J;have O:∀m,iv m []= .ae []:=fun m=>rfl;have P:∀Q:H,iw Q []=Q:=fun Q=>rfl;simp only[O,P]at g;have e0:((st++[p]).length:Int)-1=(st.length:Int):=by simp
  have zn:(((n+1:Nat):Int)==0)=false:=by simp;try omega
  have ew:aE.wrap ((st.length:Int))=(st.length:Int):=by rw[a7]<;>omega
  have hpl:((st++[p]).length:Int)=(st.length:Int)+1:=by simp
  have R:(st++[p]).length=st.length+1:=by simp
  have t:dj 8 (gh (st.length*8) (gV V.c (aU (st++[p])++X)))=(bR p).map V.c:=by
   rw[ti,dF,GO (by rw[bY,iS])];rfl
  have hle:st.length*8+8<=(aU (st++[p])++X).length:=by rw[bC,iS,R];omega
  have w1:aE.wrap ((st.length:Int)+1-1)=(st.length:Int):=by rw[a7]<;>omega
  have p0:(0:Int)<=(st.length:Int):=by omega
  have p1:(st.length:Int)<(st.length:Int)+1:=by omega
  have p2:(st.length:Int)<=(st.length:Int)+1:=by omega
  have p3:st.length<st.length+1:=by omega
  have p4:st.length<=st.length+1:=by omega
  have w:(((st.length+1:Nat):Int)>0):=by omega
  have hcl:((st.length+1:Nat):Int)=(st.length:Int)+1:=by omega
  simp only[bR,ck,cP]at t;rw[R]at*
  have u:(e !=0)=true:=by simp[he]
  generalize aU (st++[p])++X=F at*
  apply bl;simp only[go_sem,w];refine wY ?_;simp only[go_sem,zn];refine wN ?_;simp only[go_sem,D,M,h6,i,A,hg0,j,t,hle,hcl,w1,p0,p1,p2,p3,p4];(refine db (g _) ?_;simp only[go_sem,u]);refine wY ?_;simp only[go_sem];refine W.ret (Fin.gen (ok1 s') ?_ (by simp only[aX,pE,go_sem];rfl) (.rfl _) (.c _) rfl ?_)
  ·exact i _ _
  ·exact⟨rfl,Y,E _ _⟩
 |@go n _ s1 _ st l p _ hS r=>
  have hp:=h4 p (by simp);have hkeep:=z8 h2 hN1 (by omega) (by rw[h3];exact hp) hS;obtain⟨k1,k2,k3,k4⟩:=hkeep;rw[h3]at k2 k3;have g:=fun J=>G s p l 0 s1 h2 h3 hp hS Y J;have wn:aE.wrap (((n+1:Nat):Int)-1)=(n:Int):=by rw[a7]<;>omega
  have hX:=ti st p X;have hlr:(st++l.reverse).length=st.length+l.length:=by simp
  have e0:((st++[p]).length:Int)-1=(st.length:Int):=by simp
  have zn:(((n+1:Nat):Int)==0)=false:=by simp;try omega
  have ew:aE.wrap ((st.length:Int))=(st.length:Int):=by rw[a7]<;>omega
  have hpl:((st++[p]).length:Int)=(st.length:Int)+1:=by simp
  have R:(st++[p]).length=st.length+1:=by simp
  have t:dj 8 (gh (st.length*8) (gV V.c (aU (st++[p])++X)))=(bR p).map V.c:=by
   rw[ti,dF,GO (by rw[bY,iS])];rfl
  have hle:st.length*8+8<=(aU (st++[p])++X).length:=by rw[bC,iS,R];omega
  have w1:aE.wrap ((st.length:Int)+1-1)=(st.length:Int):=by rw[a7]<;>omega
  have p0:(0:Int)<=(st.length:Int):=by omega
  have p1:(st.length:Int)<(st.length:Int)+1:=by omega
  have p2:(st.length:Int)<=(st.length:Int)+1:=by omega
  have p3:st.length<st.length+1:=by omega
  have p4:st.length<=st.length+1:=by omega
  have w:(((st.length+1:Nat):Int)>0):=by omega
  have hcl:((st.length+1:Nat):Int)=(st.length:Int)+1:=by omega
  simp only[bR,ck,cP]at t;rw[R]at*
  by_cases hl:l=[]
  ·subst hl;have O:∀m,iv m []= .ae []:=fun m=>rfl;have P:∀Q:H,iw Q []=Q:=fun Q=>rfl;simp only[O,P]at g;generalize hF:aU (st++[p])++X=F at*
   apply bl;simp only[go_sem,w];refine wY ?_;simp only[go_sem,zn];refine wN ?_;simp only[go_sem,D,M,h6,i,A,hg0,j,t,hle,hcl,w1,p0,p1,p2,p3,p4];(refine db (g _) ?_;simp only[go_sem]);have u:((0:Int) !=0)=false:=by decide
   apply bl;simp only[go_sem,u];refine wN ?_;simp only[go_sem];(refine db (M5 w0 _) ?_;simp only[go_sem,h6,D,i,wn]);refine .inv ⟨⟨n,s1,st,Y,J++[.cells ((bR p).map V.c)],q,(bR p)++X⟩,⟨by simpa using r,k1,k2,fun p hp=>h4 p (kM _ hp),by dsimp only;simp at h5;omega,(fun s=>by dsimp only;rw[D,hX];rfl),⟨Y',J'++[.cells ((bR p).map V.c)],fun s=>M s _,by simp[h9],h10⟩,h7⟩,by dsimp only;omega,?_⟩;dsimp only
   exact wV
  ·have O:∀m,iv m l= .vec m l.length:=fun m=>if_neg hl;have P:∀Q:H,iw Q l=Q++[.vec 235 8 (aU l)]:=fun Q=>if_neg hl;simp only[O,P]at g;have hrev:∀(c:ad),DC prog w0 180 [.vec (σ.length+(J.length+1)) l.length] (Bs s1 Y++(J++[c,.vec 235 8 (aU l)])) (Same (.au []) (Bs s1 Y++(J++[c,.vec 235 8 (aU l.reverse)]))):=fun c=>by
    have:=vN w0 l (by omega) (σ.length+(J.length+1)) (Bs s1 Y++(J++[c,.vec 235 8 (aU l)])) (by rw[A,bx];rfl);rwa [j,cR]at this
   have hrw:rowsOf 8 l.length (aU l.reverse)=l.reverse.map bR:=by
    have:=M4 l.reverse;rwa [Bj]at this
   have hcs:(aU l.reverse).length=l.length*8:=by rw[iS,Bj]
   have hfl:(l.reverse.map bR).flatten=aU l.reverse:=rfl;have hr8:=te l.reverse;have T:(l.reverse.map bR).length=l.length:=by simp
   generalize hF:aU (st++[p])++X=F at*
   apply bl;simp only[go_sem,w];refine wY ?_;simp only[go_sem,zn];refine wN ?_;simp only[go_sem,D,M,h6,i,A,hg0,j,t,hle,hcl,w1,p0,p1,p2,p3,p4];(refine db (g _) ?_;simp only[go_sem]);have u:((0:Int) !=0)=false:=by decide
   apply bl;simp only[go_sem,u];refine wN ?_;simp only[go_sem];(refine db (hrev _) ?_;simp only[go_sem]);refine W.jj (b:=σ.length+(J.length+1)) (e:=235) (size:=8) (k:=l.length) (cs:=aU l.reverse) 42 rfl (by rw[A,bx];rfl) (oZ hcs.symm) ?_;rw[hrw,j,cR];cases hrs:l.reverse.map bR with
   |nil=>rw[hrs]at T;simp at T;exact absurd T.symm (by simpa using hl)
   |cons r1 rs=>
    rw[hrs]at hr8 hfl T;have r8:=hr8 r1 (aZ ..);have rs8:(∀x∈rs,x.length=8)=True:=eq_true (fun x hx=>hr8 x (bH _ hx));have hrl2:rs.length+1=l.length:=by simpa using T
    have b1:(st.length+(rs.length+1))*112<=140737488355328:=by simp at h5;omega
    have b2:st.length+(rs.length+1)<=140737488355328:=by omega
    have b3:st.length*8<=F.length:=by omega
    have hne2:(r1::rs=[])=False:=by simp
    have htk:dj (st.length*8) F=aU st:=by rw[hX,List.take_left' (iS st)]
    apply bl;simp only[go_sem,h6,D,M,i,h9,wn,r8,rs8,b1,b2,b3,hne2,htk,hfl,ne_eq,not_false_eq_true];refine .inv ⟨⟨n,s1,st++l.reverse,Y',J'++[.cells ((bR p).map V.c),.gone,.vec 235 8 (aU st++aU l.reverse)],σ.length+(J.length+2),[]⟩,⟨r,k1,k2,fun p hp=>(cJ.1 hp).elim (fun h=>h4 p (kM _ h)) (fun h=>k3 p (List.mem_reverse.1 h)),by dsimp only;simp at h5⊢;omega,(fun s=>by dsimp only;rw[A,vL,cd,<-h9,bx];rfl),⟨Y',J'++[.cells ((bR p).map V.c),.gone,.gone],(fun s=>by dsimp only;rw[j,<-h9,cR];rfl),by simp,h10⟩,h10⟩,by dsimp only;omega,?_⟩
    dsimp only
    rw[hlr,<-hrl2];exact wV
def Yb(w0:World)(t:aa)(g:ay 0 t)(σ:H):DC prog w0 238 [.c (.sl []),t.v] σ (Same (B false) σ):=by
 refine Ec.go rfl (fun e h=>?_);have b:t.k≠1:=fun b=>by obtain⟨h0,i,_⟩:=g.var b;omega
 have j:(t.k==1)=false:=by simp[b]
 clear g b;apply bl;simp only[go_sem,qW];(apply W.aD (aF _ _);case hc=>((apply ab.aj;simp only[go_sem,j]);exact ab.nil));apply bl;simp only[go_sem];exact wF e
def M7(w0:World)(t:aa)(e:ay 0 t)(σ:H):DC prog w0 191 [.c (.sl []),t.v] σ (Same t.v σ):=by
 refine D8.go rfl (fun b g=>?_);have hS:=fun σ=>Yb w0 t e σ;clear e;apply bl;simp only[go_sem,zW];refine W.aY (α:=Unit) (fun _=>True) (fun _=>⟨(((base.put (some 0) (.c (.sl []))).put (some 3) (.ptr σ.length 0)).put (some 4) (.ptr (σ.length+1) 0)),σ++[.cells t.v.af,.cells [I 0,S [],I 0,.ae []]]⟩) (fun _=>0) () trivial ?_ (fun _ _=>?_)
 ·exact wV
 apply bl;simp only[go_sem];(refine db (hS _) ?_;simp only[go_sem]);refine wN ?_;simp only[go_sem];exact wF b
def Yc(w0:World){a b x y:aa}(σ:H)(r:∀σ,DC prog w0 191 [.c (.sl []),a.v] σ (Same x.v σ))(t:∀σ,DC prog w0 191 [.c (.sl []),b.v] σ (Same y.v σ))(e:(x.k==1)=false)(g:(y.k==1)=false)(hc:¬(x.k=y.k/\x.name=y.name/\x.l.length=y.l.length)):DC prog w0 227 [.c (.sl []),a.v,b.v] σ (Same (.au [.ae [],I 60]) σ):=by
 refine lR.go rfl (fun i w=>?_);by_cases j:x.k=y.k
 ·have c1:(x.k==y.k)=true:=by simp[j]
  by_cases p:x.name=y.name
  ·have u:(x.name==y.name)=true:=by simp[p]
   have A:¬x.l.length=y.l.length:=fun h=>hc ⟨j,p,h⟩;have c3:((x.l.length:Int)==(y.l.length:Int))=false:=by simp;omega
   clear hc j p A;apply bl;simp only[go_sem,c227];apply W.aD (aF _ _)
   case hc=>
    (apply ab.aj;simp only[go_sem]);(apply ab.call (r _)<;>try rfl);(apply ab.aj;simp only[go_sem]);(apply ab.call (t _)<;>try rfl);(apply ab.aj;simp only[go_sem]);exact ab.nil
   apply bl;simp only[go_sem,e,g];refine wN ?_;simp only[go_sem,e,g];refine wN ?_;simp only[go_sem,e,g];refine wN ?_;simp only[go_sem,e,g];refine wN ?_;simp only[go_sem,bne,c1,u,c3];refine wY ?_;simp only[go_sem];exact wF i
  ·have u:(x.name==y.name)=false:=by simp[p]
   clear hc j p;apply bl;simp only[go_sem,c227];apply W.aD (aF _ _)
   case hc=>
    (apply ab.aj;simp only[go_sem]);(apply ab.call (r _)<;>try rfl);(apply ab.aj;simp only[go_sem]);(apply ab.call (t _)<;>try rfl);(apply ab.aj;simp only[go_sem]);exact ab.nil
   apply bl;simp only[go_sem,e,g];refine wN ?_;simp only[go_sem,e,g];refine wN ?_;simp only[go_sem,e,g];refine wN ?_;simp only[go_sem,e,g];refine wN ?_;simp only[go_sem,bne,c1,u];refine wY ?_;simp only[go_sem];exact wF i
 ·have c1:(x.k==y.k)=false:=by simp[j]
  clear hc j;apply bl;simp only[go_sem,c227];apply W.aD (aF _ _)
  case hc=>
   (apply ab.aj;simp only[go_sem]);(apply ab.call (r _)<;>try rfl);(apply ab.aj;simp only[go_sem]);(apply ab.call (t _)<;>try rfl);(apply ab.aj;simp only[go_sem]);exact ab.nil
  apply bl;simp only[go_sem,e,g];refine wN ?_;simp only[go_sem,e,g];refine wN ?_;simp only[go_sem,e,g];refine wN ?_;simp only[go_sem,e,g];refine wN ?_;simp only[go_sem,bne,c1];refine wY ?_;simp only[go_sem];exact wF i
def Yd(w0:World){a b x y:aa}(σ:H)(hx:∀σ,DC prog w0 191 [.c (.sl []),a.v] σ (Same x.v σ))(hy:∀σ,DC prog w0 191 [.c (.sl []),b.v] σ (Same y.v σ))(D:(x.k==1)=false)(E:(y.k==1)=false)(h1:x.k=y.k)(h2:x.name=y.name)(Y:x.l.length=y.l.length)(hn:x.l.length<=1000000):DC prog w0 227 [.c (.sl []),a.v,b.v] σ (Same (.au [iv σ.length (dv x.l y.l),I 0]) (iw σ (dv x.l y.l))):=by
 have c1:(x.k==y.k)=true:=by simp[h1]
 have c2:(x.name==y.name)=true:=by simp[h2]
 have c3:((x.l.length:Int)==(y.l.length:Int))=true:=by simp[Y]
 have g:=tf x.l y.l Y;by_cases h0:x.l=[]
 ·have P:dv x.l y.l=[]:=fM (by rw[g,h0];rfl);have hl0:x.l.length=0:=by rw[h0];rfl
  unfold iv iw;rw[if_pos P,if_pos P];refine lR.go rfl (fun L hsz=>?_);have A:¬((0:Int)<(x.l.length:Int)):=by omega
  clear h1 h2 Y h0 P g;apply bl;simp only[go_sem,c227];apply W.aD (aF _ _)
  case hc=>
   (apply ab.aj;simp only[go_sem]);(apply ab.call (hx _)<;>try rfl);(apply ab.aj;simp only[go_sem]);(apply ab.call (hy _)<;>try rfl);(apply ab.aj;simp only[go_sem]);exact ab.nil
  apply bl;simp only[go_sem,D,E];refine wN ?_;simp only[go_sem,D,E];refine wN ?_;simp only[go_sem,D,E];refine wN ?_;simp only[go_sem,D,E];refine wN ?_;simp only[go_sem,bne,c1,c2,c3];refine wN ?_;simp only[go_sem];refine W.aY (α:=Unit) (fun _=>True) (fun _=>⟨(((base.put (some 8) (.ae [])).put (some 96) (I (x.l.length:Int))).put (some 97) (I 0)),σ⟩) (fun _=>0) () trivial ?_ (fun _ _=>?_)
  ·exact wD L
  apply bl;simp only[go_sem,A];refine wN ?_;simp only[go_sem];exact wF L
 ·have j:0<x.l.length:=iX.2 h0;have P:dv x.l y.l≠[]:=fun e=>by rw[e]at g;simp at g;omega
  unfold iv iw;rw[if_neg P,if_neg P];refine DC.Ji ?_;refine lR.cl rfl (fun L hsz=>?_);have G:∀i (Q:i<x.l.length) (R:i<y.l.length),aU ((dv x.l y.l).take (i+1))=aU ((dv x.l y.l).take i)++bR (x.l[i],y.l[i]):=fun i Q R=>by
   have T:i<(dv x.l y.l).length:=by omega
   rw[eW T,vL,vM _ _ _ T Q R];simp[aU]
  have U:∀i,i<=x.l.length->(aU ((dv x.l y.l).take i)).length=i*8:=fun i Q=>by rw[iS,dE];omega
  have X:(dv x.l y.l).take x.l.length=dv x.l y.l:=by rw[<-g,jA]
  generalize dv x.l y.l=Z at*
  apply bl;simp only[go_sem,c227];apply W.aD (aF _ _)
  case hc=>
   (apply ab.aj;simp only[go_sem]);(apply ab.call (hx _)<;>try rfl);(apply ab.aj;simp only[go_sem]);(apply ab.call (hy _)<;>try rfl);(apply ab.aj;simp only[go_sem]);exact ab.nil
  apply bl;simp only[go_sem,D,E];refine wN ?_;simp only[go_sem,D,E];refine wN ?_;simp only[go_sem,D,E];refine wN ?_;simp only[go_sem,D,E];refine wN ?_;simp only[go_sem,bne,c1,c2,c3];refine wN ?_;simp only[go_sem];refine W.aY (α:=Option (Nat×H)) (fun o=>match o with|none=>True|some (i,_)=>1<=i/\i<=x.l.length) (fun o=>match o with
   |none=>⟨(((((base.put (some 4) (.ptr σ.length 0)).put (some 5) (.ptr (σ.length+1) 0)).put (some 8) (.ae [])).put (some 96) (I (x.l.length:Int))).put (some 97) (I 0)),σ++[.cells x.v.af,.cells y.v.af]⟩
   |some (i,J)=>⟨(((((base.put (some 4) (.ptr σ.length 0)).put (some 5) (.ptr (σ.length+1) 0)).put (some 8) (.vec (σ.length+(J.length+2)) i)).put (some 96) (I (x.l.length:Int))).put (some 97) (I (i:Int))),σ++ .cells x.v.af:: .cells y.v.af::(J++[.vec 235 8 (aU (Z.take i))])⟩) (fun o=>match o with|none=>x.l.length+1|some (i,_)=>x.l.length-i) none trivial ?_ (fun o ho=>?_)
  ·dsimp only
   exact wV
  cases o with
  |none=>
   dsimp only
   have A:((0:Int)<(x.l.length:Int)):=by omega
   have z2:((0:Int)<(y.l.length:Int)):=by omega
   have M:x.l[0]?=some x.l[0]:=aN j;have N:y.l[0]?=some y.l[0]:=aN (by omega);have p:=G 0 j (by omega);rw[show aU (Z.take 0)=[]from rfl,dK]at p;have hw:aE.wrap (0+1)=((1:Nat):Int):=by decide
   generalize x.l[0]=u at*;generalize y.l[0]=v at*
   apply bl;simp only[go_sem,A];refine wY ?_;simp only[go_sem];apply W.aD (aF _ _)
   case hc=>
    iterate 13 (apply ab.quiet (dN.step rfl (by(simp only[go_sem,A,z2,M,N,bu]);rfl));case hp=>(intro τ hτ;simp at hτ))
    apply ab.bL
    case h=>exact fh.vec (x:=.t 100) (y:=.t 112) (e:=235) (size:=8) (bytes:=112) (olds:=[]) (news:=[bR (u,v)]) rfl rfl rfl rfl ⟨by simp,(fun r p=>by cases p),(fun r p=>by simp at p;subst p;rfl),by simp,by simp⟩
    (apply ab.aj;simp only[go_sem,bC,dS,kO,bR]);exact ab.nil
   apply bl;simp only[go_sem,hw];refine .inv ⟨some (1,[]),⟨aA _,j⟩,by dsimp only;omega,?_⟩;dsimp only
   rw[p];exact wV
  |some q=>
   obtain⟨i,J⟩:=q;obtain⟨hi1,Q⟩:=ho;dsimp only
   have e1:∀w:ad,(J++[w])[J.length]?=some w:=fun w=>by simp
   have e2:∀w z:ad,(J++[w]).set J.length z=J++[z]:=fun w z=>by simp
   have hFl:=U i Q;by_cases O:i<x.l.length
   ·have A:((i:Int)<(x.l.length:Int)):=by omega
    have z2:((i:Int)<(y.l.length:Int)):=by omega
    have z0:(0:Int)<=(i:Int):=by omega
    have M:x.l[i]?=some x.l[i]:=aN O;have N:y.l[i]?=some y.l[i]:=aN (by omega);have p:=G i O (by omega);have hw:aE.wrap ((i:Int)+1)=((i+1:Nat):Int):=by rw[a7]<;>omega
    have b1:(i+1)*112<=140737488355328:=by omega
    have b2:i+1<=140737488355328:=by omega
    have b3:i<=140737488355327:=by omega
    have htk:dj (i*8) (aU (Z.take i))=aU (Z.take i):=dT (by omega);have hle:i*8<=i*8:=aA _;have hne:∀r:List C,([r]=[])=False:=fun r=>by simp
    simp only[bR]at p;generalize x.l[i]=u at*;generalize y.l[i]=v at*;generalize aU (Z.take i)=F at*
    apply bl;simp only[go_sem,A];refine wY ?_;simp only[go_sem];apply W.aD (aF _ _)
    case hc=>
     (apply ab.aj;simp only[go_sem,z0,A,z2,M,N,e1,e2,hFl,htk,b1,b2,b3,hle,hne,ne_eq,not_false_eq_true,dS,kO]);exact ab.nil
    apply bl;simp only[go_sem,hw];refine .inv ⟨some (i+1,J++[.gone]),⟨by omega,O⟩,by dsimp only;omega,?_⟩;dsimp only
    rw[p];simp only[go_sem,bC];exact wV
   obtain rfl:i=x.l.length:=by omega
   have A:¬((x.l.length:Nat):Int)<((x.l.length:Nat):Int):=by omega
   apply bl;simp only[go_sem,A];refine wN ?_;simp only[go_sem];refine W.ret ⟨_,_,(by simp only[aX,zX,go_sem];rfl),.rfl _,?_⟩;rw[X];exact⟨.cells x.v.af:: .cells y.v.af::J,[],by rw[g];rfl,by simp[aa.v,V.af,aM]⟩
def Aa{t u:aa}{n:Nat}(b:ay 0 t)(r:eP [] t u n):u=t:=by
 cases r with
 |stop h=>rfl
 |go h r=>
  obtain⟨h0,c,_⟩:=b.var (fk h);omega
def Ye(w0:World){N:Nat}(F:N<=1000000){a b:aa}(hp:de 0 N (a,b)){l:List (aa×aa)}{e:Int}{s':List aa}(h:kp [] a b l e s')(σ:H):
  DC prog w0 227 [.c (.sl []),a.v,b.v] σ (Same (.au [iv σ.length l,I e]) (iw σ l)):=by
 obtain⟨ha,i,p,u⟩:=hp;dsimp only at ha i p u;cases h with
 |@mk x y n m l e s' w A h=>
  obtain rfl:=Aa ha w;obtain rfl:=Aa i A;have r:=fun σ=>M7 w0 x ha σ;have t:=fun σ=>M7 w0 y i σ;have g:x.k≠1:=fun k=>by obtain⟨h0,D,_⟩:=ha.var k;omega
  have j:y.k≠1:=fun k=>by obtain⟨h0,D,_⟩:=i.var k;omega
  rcases h with⟨k,_⟩|⟨k,_⟩|⟨k,_⟩|⟨_,k,_⟩|⟨_,_,hc,rfl,rfl,rfl⟩|⟨_,_,⟨c1,E,c3⟩,rfl,rfl,rfl⟩
  ·exact absurd k g
  ·exact absurd k g
  ·exact absurd k g
  ·exact absurd k j
  ·exact Yc w0 σ r t (by simp[g]) (by simp[j]) hc
  ·exact Yd w0 σ r t (by simp[g]) (by simp[j]) c1 E c3 (by have:=lj x.l;rw[ct]at p;omega)
end
end Go.Proofs.YtdlkenpilhakfaaGreatDoor
namespace Go.Lamb
open Go Go.RowKit
section
variable {P:Program} {w0:World} {f:FuncId} {args:List V} {σ:H}
def DC.Yf{v:V}{c:H}(hd:DC P w0 f args c (fun v' j=>v'=v/\∃Y,j=σ++[Y])):DC P w0 f args c (Same v (σ++[.gone])):=by
 refine⟨hd.enters,fun κ w vs g i=>(hd.run κ w vs g i).mono ?_⟩;rintro E w' ⟨v,d0,p,κ',rfl,⟨rfl,Y,rfl⟩,r,t,u⟩;refine⟨v,d0,_,κ',rfl,⟨rfl,rfl⟩,r,t.uJ ⟨by simp,fun b A D=>?_⟩,u⟩;by_cases h:b<σ.length
 ·rw[cM h,cM h];exact .rfl _
 ·have e:b=σ.length:=by simp at A;omega
  subst e;rw[dY (aA _),dY (aA _)];simp only[Nat.sub_self,List.getElem_cons_zero];exact .gone _
end
end Go.Lamb
namespace Go.Proofs.YtdlkenpilhakfaaGreatDoor
open Go.RowKit Go.Lamb
section
attribute [local go_sem] aa.v aa.aG aO aQ aL aH aM
structure Yg (N:Nat) (e:Int) (n:Nat) (st:List (aa×aa)) (J:H) (q:Nat) (X:List C):Prop where
 run:ee n [] st e []
 holds:∀p∈st,de 0 N p
 X9:st.length+n*1000000<=4097000000
 at_:J[q]?=some (.vec 235 8 (aU st++X))
 top:∃Y J',J=Y::J'/\(∀cs tg,Y≠ .cells cs tg)
structure Yh where
 n:Nat
 st:List (aa×aa)
 J:H
 q:Nat
 X:List C
def Yi{N:Nat}{a b:aa}(hp:de 0 N (a,b)){l:List (aa×aa)}{e:Int}{s':List aa}(h:kp [] a b l e s'):s'=[]/\(∀p∈l,de 0 N p)/\l.length<=N:=by
 obtain⟨ha,g,j,r⟩:=hp;dsimp only at ha g j r;cases h with
 |@mk x y n m l e s' w A h=>
  obtain rfl:=Aa ha w;obtain rfl:=Aa g A;have i:x.k≠1:=fun k=>by obtain⟨h0,D,_⟩:=ha.var k;omega
  have t:y.k≠1:=fun k=>by obtain⟨h0,D,_⟩:=g.var k;omega
  rcases h with⟨k,_⟩|⟨k,_⟩|⟨k,_⟩|⟨_,k,_⟩|⟨_,_,hc,rfl,rfl,rfl⟩|⟨_,_,⟨c1,E,c3⟩,rfl,rfl,rfl⟩
  ·exact absurd k i
  ·exact absurd k i
  ·exact absurd k i
  ·exact absurd k t
  ·exact⟨rfl,(fun p hp=>by cases hp),be _⟩
  ·refine⟨rfl,yx _ _ (fun u c=>⟨ha.dA i c,?_⟩) (fun u c=>⟨g.dA t c,?_⟩),?_⟩
   ·have:=jm c;rw[ct]at j;omega
   ·have:=jm c;rw[ct]at r;omega
   ·rw[tf _ _ c3];have:=lj x.l;rw[ct]at j;omega
def Yj(w0:World){N:Nat}(hN:N<=1000000){st0:List (aa×aa)}(hst:∀p∈st0,de 0 N p)(hfew:st0.length<=1000000){e:Int}(h:ee 4096 [] st0 e [])
  (σ:H):
  DC prog w0 182 [.c (.sl []),.vec σ.length st0.length] (σ++[.vec 235 8 (aU st0)]) (Same (I e) (σ++[.gone])):=by
 refine DC.Yf ?_;refine D5.go rfl (fun hok0 hsz=>?_);have w:∀(p:aa×aa) (l:List (aa×aa)) (e:Int) (s1:List aa) (hp:de 0 N p) (h:kp [] p.1 p.2 l e s1) (J:H),DC prog w0 227 [.c (.sl []),p.1.v,p.2.v] (σ++J) (Same (.au [iv (σ.length+J.length) l,I e]) (iw (σ++J) l)):=fun p l e s1 hp h J=>by
  have:=Ye w0 hN hp h (σ++J);rwa [bC]at this
 have A:∀(J:H) (Z:H),(∃Y J',J=Y::J'/\(∀cs tg,Y≠ .cells cs tg))->∃Y J',H.ok (σ++[Y])/\σ++(J++Z)=(σ++[Y])++J':=fun J Z ⟨Y,J',hJ,hY⟩=>by
  refine⟨Y,J'++Z,(fun B hB cs tg hc x hx=>?_),by rw[hJ];simp⟩;rcases cJ.1 hB with hB|hB
  ·have:=hok0 B (kM _ hB) cs tg hc x hx;simpa using this
  ·simp at hB;subst hB;exact absurd hc (hY cs tg)
 apply bl;simp only[go_sem,c182];refine W.aY (α:=Yh) (fun x=>Yg N e x.n x.st x.J x.q x.X) (fun x=>⟨((((base.put (some 0) (.c (.sl []))).put (some 1) (.vec (σ.length+x.q) x.st.length)).put (some 4) (I 0)).put (some 5) (I (x.n:Int))),σ++x.J⟩) (fun x=>x.n) ⟨4096,st0,[.vec 235 8 (aU st0)],0,[]⟩ ⟨h,hst,(by dsimp only;omega),by simp,_,_,rfl,fun _ _ h=>by cases h⟩ ?_ (fun x hx=>?_)
 ·dsimp only
  exact wV
 obtain⟨n,st,J,q,X⟩:=x;obtain⟨h1,h4,h5,U,h7⟩:=hx;dsimp only at h1 h4 h5 U h7⊢;have u:=fun L=>hG U L;have Q:=fun y L=>hS U y L;cases h1 with
 |done=>
  obtain⟨Y,J',D,e1⟩:=A J [] h7;rw[cd]at e1;have z1:¬((0:Int)<0):=by decide
  apply bl;simp only[go_sem,z1];refine wN ?_;simp only[go_sem];refine W.ret (Fin.gen D ?_ (by simp only[aX,pE,go_sem];rfl) (.rfl _) (.c _) e1 ?_)
  ·simp
  ·exact⟨rfl,Y,rfl⟩
 |out t=>
  obtain⟨Y,J',D,e1⟩:=A J [] h7;rw[cd]at e1;have j:0<st.length:=iX.2 t;have z1:((0:Int)<(st.length:Int)):=by omega
  apply bl;simp only[go_sem,z1];refine wY ?_;simp only[go_sem];refine wY ?_;simp only[go_sem];refine W.ret (Fin.gen D ?_ (by simp only[aX,pE,go_sem];rfl) (.rfl _) (.c _) e1 ?_)
  ·simp
  ·exact⟨rfl,Y,rfl⟩
 |@fail n _ _ st l p _ hS he=>
  have hlnil:=M3 hS he;subst hlnil;have g:=fun J=>w p [] e [] (h4 p (by simp)) hS J;have E:∀m,iv m []= .ae []:=fun m=>rfl;have G:∀M:H,iw M []=M:=fun M=>rfl;simp only[E,G]at g;have e0:((st++[p]).length:Int)-1=(st.length:Int):=by simp
  have zn:(((n+1:Nat):Int)==0)=false:=by simp;try omega
  have ew:aE.wrap ((st.length:Int))=(st.length:Int):=by rw[a7]<;>omega
  have hpl:((st++[p]).length:Int)=(st.length:Int)+1:=by simp
  have O:(st++[p]).length=st.length+1:=by simp
  have i:dj 8 (gh (st.length*8) (gV V.c (aU (st++[p])++X)))=(bR p).map V.c:=by
   rw[ti,dF,GO (by rw[bY,iS])];rfl
  have R:st.length*8+8<=(aU (st++[p])++X).length:=by rw[bC,iS,O];omega
  have w1:aE.wrap ((st.length:Int)+1-1)=(st.length:Int):=by rw[a7]<;>omega
  have p0:(0:Int)<=(st.length:Int):=by omega
  have p1:(st.length:Int)<(st.length:Int)+1:=by omega
  have p2:(st.length:Int)<=(st.length:Int)+1:=by omega
  have p3:st.length<st.length+1:=by omega
  have p4:st.length<=st.length+1:=by omega
  have j:(((st.length+1:Nat):Int)>0):=by omega
  have T:((st.length+1:Nat):Int)=(st.length:Int)+1:=by omega
  simp only[bR,ck,cP]at i;rw[O]at*
  have t:(e !=0)=true:=by simp[he]
  generalize aU (st++[p])++X=F at*
  apply bl;simp only[go_sem,j];refine wY ?_;simp only[go_sem,zn];refine wN ?_;simp only[go_sem,u,Q,U,i,R,T,w1,p0,p1,p2,p3,p4];(refine db (g _) ?_;simp only[go_sem,t]);refine wY ?_;simp only[go_sem];obtain⟨Y,J',D,e1⟩:=A J [.cells ((bR p).map V.c)] h7;refine W.ret (Fin.gen D ?_ (by simp only[aX,pE,go_sem];rfl) (.rfl _) (.c _) e1 ?_)
  ·simp
  ·exact⟨rfl,Y,rfl⟩
 |@go n _ s1 _ st l p _ hS r=>
  have hp:=h4 p (by simp);obtain⟨k1,k3,k4⟩:=Yi hp hS;subst k1;have g:=fun J=>w p l 0 [] hp hS J;have wn:aE.wrap (((n+1:Nat):Int)-1)=(n:Int):=by rw[a7]<;>omega
  have hX:=ti st p X;have htop:∀Z:H,∃Y J',J++Z=Y::J'/\(∀cs tg,Y≠ .cells cs tg):=fun Z=>by
   obtain⟨Y,J',rfl,hY⟩:=h7;exact⟨Y,J'++Z,rfl,hY⟩
  have htop2:∀Z:H,∃Y J',J.set q .gone++Z=Y::J'/\(∀cs tg,Y≠ .cells cs tg):=fun Z=>by
   obtain⟨Y,J',rfl,hY⟩:=h7;cases q with
   |zero=>exact⟨.gone,J'++Z,rfl,fun _ _ h=>by cases h⟩
   |succ q=>exact⟨Y,J'.set q .gone++Z,rfl,hY⟩
  have hlr:(st++l.reverse).length=st.length+l.length:=by simp
  have e0:((st++[p]).length:Int)-1=(st.length:Int):=by simp
  have zn:(((n+1:Nat):Int)==0)=false:=by simp;try omega
  have ew:aE.wrap ((st.length:Int))=(st.length:Int):=by rw[a7]<;>omega
  have hpl:((st++[p]).length:Int)=(st.length:Int)+1:=by simp
  have O:(st++[p]).length=st.length+1:=by simp
  have i:dj 8 (gh (st.length*8) (gV V.c (aU (st++[p])++X)))=(bR p).map V.c:=by
   rw[ti,dF,GO (by rw[bY,iS])];rfl
  have R:st.length*8+8<=(aU (st++[p])++X).length:=by rw[bC,iS,O];omega
  have w1:aE.wrap ((st.length:Int)+1-1)=(st.length:Int):=by rw[a7]<;>omega
  have p0:(0:Int)<=(st.length:Int):=by omega
  have p1:(st.length:Int)<(st.length:Int)+1:=by omega
  have p2:(st.length:Int)<=(st.length:Int)+1:=by omega
  have p3:st.length<st.length+1:=by omega
  have p4:st.length<=st.length+1:=by omega
  have j:(((st.length+1:Nat):Int)>0):=by omega
  have T:((st.length+1:Nat):Int)=(st.length:Int)+1:=by omega
  simp only[bR,ck,cP]at i;rw[O]at*
  by_cases hl:l=[]
  ·subst hl;have E:∀m,iv m []= .ae []:=fun m=>rfl;have G:∀M:H,iw M []=M:=fun M=>rfl;simp only[E,G]at g;generalize hF:aU (st++[p])++X=F at*
   apply bl;simp only[go_sem,j];refine wY ?_;simp only[go_sem,zn];refine wN ?_;simp only[go_sem,u,Q,U,i,R,T,w1,p0,p1,p2,p3,p4];(refine db (g _) ?_;simp only[go_sem]);have t:((0:Int) !=0)=false:=by decide
   apply bl;simp only[go_sem,t];refine wN ?_;simp only[go_sem];(refine db (M5 w0 _) ?_;simp only[go_sem,U,u,wn]);refine .inv ⟨⟨n,st,J++[.cells ((bR p).map V.c)],q,(bR p)++X⟩,⟨by simpa using r,fun p hp=>h4 p (kM _ hp),by dsimp only;simp at h5;omega,by dsimp only;rw[u,hX];rfl,htop _⟩,by dsimp only;omega,?_⟩;dsimp only
   exact wV
  ·have E:∀m,iv m l= .vec m l.length:=fun m=>if_neg hl;have G:∀M:H,iw M l=M++[.vec 235 8 (aU l)]:=fun M=>if_neg hl;simp only[E,G]at g;have hrev:∀(c:ad),DC prog w0 180 [.vec (σ.length+(J.length+1)) l.length] (σ++(J++[c,.vec 235 8 (aU l)])) (Same (.au []) (σ++(J++[c,.vec 235 8 (aU l.reverse)]))):=fun c=>by
    have:=vN w0 l (by omega) (σ.length+(J.length+1)) (σ++(J++[c,.vec 235 8 (aU l)])) (by rw[bx,bx];rfl);rwa [cR,cR]at this
   have hrw:rowsOf 8 l.length (aU l.reverse)=l.reverse.map bR:=by
    have:=M4 l.reverse;rwa [Bj]at this
   have hcs:(aU l.reverse).length=l.length*8:=by rw[iS,Bj]
   have hfl:(l.reverse.map bR).flatten=aU l.reverse:=rfl;have hr8:=te l.reverse;have P:(l.reverse.map bR).length=l.length:=by simp
   generalize hF:aU (st++[p])++X=F at*
   apply bl;simp only[go_sem,j];refine wY ?_;simp only[go_sem,zn];refine wN ?_;simp only[go_sem,u,Q,U,i,R,T,w1,p0,p1,p2,p3,p4];(refine db (g _) ?_;simp only[go_sem]);have t:((0:Int) !=0)=false:=by decide
   apply bl;simp only[go_sem,t];refine wN ?_;simp only[go_sem];(refine db (hrev _) ?_;simp only[go_sem]);refine W.jj (b:=σ.length+(J.length+1)) (e:=235) (size:=8) (k:=l.length) (cs:=aU l.reverse) 42 rfl (by rw[bx,bx];rfl) (oZ hcs.symm) ?_;rw[hrw,cR,cR];cases hrs:l.reverse.map bR with
   |nil=>rw[hrs]at P;simp at P;exact absurd P.symm (by simpa using hl)
   |cons r1 rs=>
    rw[hrs]at hr8 hfl P;have r8:=hr8 r1 (aZ ..);have rs8:(∀x∈rs,x.length=8)=True:=eq_true (fun x hx=>hr8 x (bH _ hx));have hrl2:rs.length+1=l.length:=by simpa using P
    have b1:(st.length+(rs.length+1))*112<=140737488355328:=by simp at h5;omega
    have b2:st.length+(rs.length+1)<=140737488355328:=by omega
    have b3:st.length*8<=F.length:=by omega
    have hne2:(r1::rs=[])=False:=by simp
    have htk:dj (st.length*8) F=aU st:=by rw[hX,List.take_left' (iS st)]
    apply bl;simp only[go_sem,U,u,Q,wn,r8,rs8,b1,b2,b3,hne2,htk,hfl,ne_eq,not_false_eq_true];refine .inv ⟨⟨n,st++l.reverse,J.set q .gone++[.cells ((bR p).map V.c),.gone,.vec 235 8 (aU st++aU l.reverse)],J.length+2,[]⟩,⟨r,fun p hp=>(cJ.1 hp).elim (fun h=>h4 p (kM _ h)) (fun h=>k3 p (List.mem_reverse.1 h)),by dsimp only;simp at h5⊢;omega,by dsimp only;rw[vL,cd];simp,htop2 _⟩,by dsimp only;omega,?_⟩;dsimp only
    rw[hlr,<-hrl2];exact wV
end
def c9:AC:=rsq [oB 3 0,oB 4 1,oB 5 2,oA 6 zS4,oN 7,oK 8 0,oK 9 0] (.seq (rsq [.d 17 5 4,.k 18 23 [17],.m 10 18] (rif [.m 19 10,oI 20 .lss 19 (zK 0),.m 21 20,yW 22 10 21,yB 23 .gtr 22 (zK 4096) 21,oP 24 21 zT 23,.m 25 24,.z 26 (.ez 4 5) 25,.z 27 (.call (.k (.fn 24 [])) [26]) 25,.z 28 (.un .not 27) 25,oP 29 25 zT 28] 29 (rsq [oD 30 zS4 [],.s 4 6 30,oN 7,oK 8 1,oK 9 0] .ret) .skip)) (rsq [.d 31 3 3,oD 32 [.ae [],.ae [],.ae [],.ae [],.ae [],.ae [],zI,zI] [(0,3,31)],oB 33 32,.m 11 33] (rsq [.m 35 11,.d 36 5 4,.k 37 25 [35,36],.m 34 37,.x 38 34 0,.x 39 34 1,oA 12 zS4,oA 13 zS4,.s 4 12 38,.s 4 13 39] (.seq (.seq (drg [.m 40 11,.n 41 40,.f 42 6 41,.f 43 0 42,.l 44 43,oI 45 .eql 44 (zK 0),.m 46 45,yV 47 11 46,.y 48 (.ez 4 13) 46,yV 49 11 46,.y 50 (.ez 4 5) 46,.y 51 (.call (.k (.fn 27 [])) [49,50]) 46,.y 52 (.call (.k (.fn 26 [])) [47,48,51]) 46,.y 53 (.un .not 52) 46,oP 54 46 53 zF] [0,1,2,3,4,5,6,9,10,111,7,8,312,413,414]) (.cond 54 (.ax [.m 55 11,.f 56 4 4,.l 57 56,.k 58 28 [55,(zK 121),57]]) .skip)) (.seq (rif [.m 59 11,.n 60 59,.f 61 6 60,.f 62 0 61,.l 63 62,oI 64 .neq 63 (zK 0)] 64 (.seq (drg [oD 65 zS4 [],.m 66 11,.n 67 66,.f 68 6 67,.f 69 0 68,.l 70 69,.m 71 11,.n 72 71,.f 73 6 72,.f 74 1 73,.l 75 74,.s 4 6 65,oN 7,.m 8 70,.m 9 75] [0,111,1,2,3,4,5,6,7,8,9,10,212,213,214]) .ret) .skip) (rsq [.d 77 4 12,.k 78 29 [77,(zK 1000)],.m 76 78,.x 79 76 0,.x 80 76 1,.x 81 76 2,oA 14 zS4,.s 4 14 79,.m 15 80,.m 16 81] (.seq (rif [.m 82 16,oI 83 .neq 82 (zK 0),.m 84 83,.z 85 (.ez 4 14) 84,.z 86 (.call (.k (.fn 30 [])) [85]) 84,yB 87 .gtr 86 (zK 4096) 84,oP 88 84 zT 87,.m 89 88,yW 90 11 89,yW 91 11 89,.z 92 (.iD 91) 89,yX 93 5 92 89,yT 94 93 89,.z 95 (.call (.k (.fn 32 [])) [94]) 89,.z 96 (.call (.k (.fn 31 [])) [90,95]) 89,oP 97 89 zT 96] 97 (rsq [oD 98 zS4 [],.s 4 6 98,oN 7,oK 8 122,oK 9 0] .ret) .skip) (.seq (drg [.d 99 4 14,.m 100 11,.k 101 33 [100],.s 4 6 99,.m 7 101,oK 8 0,oK 9 0] [1,102,0,303,404,405,406]) .ret))))))))
abbrev r9:List ak:=[.aW 4 6,.tmp 7,.tmp 8,.tmp 9]
def k9:aq prog 9 3 Tryz.f9 c9 r9:=.auto func9
def M8:AC:=rsq [oB 2 0,oB 3 1,oA 4 zS4,oN 5,oK 6 0,oK 7 0] (rsq [.d 8 3 2,.d 9 5 3,oD 10 zS4 [(1,1,(.k (.c (.str [111]))))],.k 11 9 [8,9,10],.x 12 11 0,.x 13 11 1,.x 14 11 2,.x 15 11 3,.s 4 4 12,.m 5 13,.m 6 14,.m 7 15] .ret)
abbrev M9:List ak:=[.aW 4 4,.tmp 5,.tmp 6,.tmp 7]
def Yk:aq prog 17 2 Tryz.f17 M8 M9:=.auto func17
def nf:AC:=rsq [oB 1 0,oK 2 0] (rsq [oK 3 0] (.seq (rsq [.f 8 0 1,.l 9 8] (.block 0 (.seq (rif [oI 11 .eql 9 (zK 0),.m 10 11] 10 .skip (rif [oI 12 .eql 9 (zK 1),.m 10 12] 10 .skip (.ax [oI 13 .eql 9 (zK 2),.m 10 13]))) (.cond 10 (rsq [oK 2 1] .ret) (rif [oI 15 .eql 9 (zK 4),.m 14 15] 14 (.ax [oK 3 1]) (rif [oI 17 .eql 9 (zK 3),.m 16 17] 16 (.ax [oK 3 2]) (rsq [oK 2 (-1)] .ret))))))) (.seq (rif [.f 18 3 1,.l 19 18,oL 20 19,.m 21 3,oI 22 .neq 20 21] 22 (rsq [oK 2 (-1)] .ret) .skip) (rsq [oK 4 1] (.seq (rsq [.f 23 3 1,.l 24 23,oL 25 24,oK 26 0] (.block 1 (.loop (rsq [oI 27 .lss 26 25] (.seq (.cond 27 .skip (.exit 1)) (.seq (.block 2 (rsq [oJ 28 5 24 26,.d 29 5 28,oA 6 [zI,zC,zI,.ae [],zI],.s 5 6 29] (rsq [.d 30 5 6,.k 31 23 [30],.m 7 31] (.seq (rif [.m 32 7,oI 33 .lss 32 (zK 0)] 33 (rsq [oK 2 (-1)] .ret) .skip) (.ax [.m 34 4,.m 35 7,oI 36 .add 34 35,.m 4 36]))))) (.ax [oI 37 .add 26 (zK 1),.m 26 37]))))))) (rsq [.m 38 4,.m 2 38] .ret))))))
abbrev Na:List ak:=[.tmp 2]
def Nb:aq prog 23 1 Tryz.f23 nf Na:=.auto func23
def qX:AC:=rsq [oB 3 1,oA 4 zS4,oA 5 zS4] (.seq (rif [.m 11 0,.n 12 11,.f 13 6 12,.f 14 0 13,.l 15 14,oI 16 .neq 15 (zK 0)] 16 (rsq [oD 17 zS4 [],oD 18 zS4 [],.s 4 4 17,.s 4 5 18] .ret) .skip) (.seq (rsq [.f 19 0 3,.l 20 19] (.block 0 (rif [oI 22 .eql 20 (zK 2),.m 21 22] 21 (rsq [.f 23 2 3,.l 24 23,oD 25 zS4 [(0,1,(zK 2)),(2,1,24)],oD 26 zS4 [(1,1,(.k (.c (.str [105,110,116]))))],.s 4 4 25,.s 4 5 26] .ret) (rif [oI 28 .eql 20 (zK 4),.m 27 28] 27 (rsq [.m 29 0,.d 30 5 3,.k 31 66 [29,30],.x 32 31 0,.x 33 31 1,.s 4 4 32,.s 4 5 33] .ret) (rif [oI 35 .eql 20 (zK 3),.m 34 35] 34 (rsq [.m 37 0,.f 38 3 3,.l 39 38,oJ 40 5 39 (zK 0),.d 41 5 40,.k 42 25 [37,41],.m 36 42,.x 43 36 0,.x 44 36 1,oA 6 zS4,oA 7 zS4,.s 4 6 43,.s 4 7 44] (rsq [.m 46 0,.f 47 3 3,.l 48 47,oJ 49 5 48 (zK 1),.d 50 5 49,.k 51 25 [46,50],.m 45 51,.x 52 45 0,.x 53 45 1,oA 8 zS4,oA 9 zS4,.s 4 8 52,.s 4 9 53] (.seq (rif [.m 54 0,.n 55 54,.f 56 6 55,.f 57 0 56,.l 58 57,oI 59 .neq 58 (zK 0)] 59 (rsq [oD 60 zS4 [],oD 61 zS4 [],.s 4 4 60,.s 4 5 61] .ret) .skip) (rsq [.m 62 0,.k 63 67 [62],oA 10 zS4,.s 4 10 63] (.seq (.seq (drg [.m 64 0,.d 65 4 7,.d 66 4 10,.d 67 4 9,oS 68 4 [67],.k 69 68 [66,68],.k 70 26 [64,65,69],oU 71 .not 70] [2,3,4,105,0,1,306,407]) (.cond 71 (.ax [.m 72 0,.f 73 4 3,.l 74 73,.k 75 28 [72,(zK 121),74]]) .skip)) (.seq (drg [.d 76 4 6,.d 77 4 8,oS 78 4 [77],.k 79 69 [76,78],.d 80 4 10,.s 4 4 79,.s 4 5 80] [0,1,2,103,305,4,506]) .ret)))))) .skip))))) (rsq [.m 81 0,.d 82 5 3,.k 83 70 [81,82],.x 84 83 0,.x 85 83 1,.s 4 4 84,.s 4 5 85] .ret)))
abbrev od:List ak:=[.aW 4 4,.aW 4 5]
def vO:aq prog 25 2 Tryz.f25 qX od:=.auto func25
def vP:AC:=rsq [oB 4 1,oB 5 2,oF 6] (.seq (drg [.m 10 0,.n 11 10,.f 12 3 11,.l 13 12,.d 14 4 4,.d 15 4 5,.k 16 71 [13,14,15],.m 9 16,.x 17 9 0,.x 18 9 1,.m 7 17,.m 8 18] [0,1,2,3,4,5,106,207,208,209,210,211]) (rsq [.m 19 0,.m 20 7,.n 21 19,.f 22 3 21,.s 1 22 20] (rsq [.m 23 8,oI 24 .eql 23 (zK 0),.m 6 24] .ret)))
abbrev vQ:List ak:=[.tmp 6]
def Ab:aq prog 26 3 Tryz.f26 vP vQ:=.auto func26
def tj:AC:=rsq [oB 3 1,oA 4 zS4] (rsq [.d 6 4 3,.k 7 72 [6],.s 4 3 7] (.seq (drg [.d 8 4 3,.m 9 0,.n 10 9,.f 11 3 10,.l 12 11,oL 13 12,.k 14 73 [8,13],oA 5 zS4,.s 4 5 14] [107,0,1,2,3,4,5,6,308]) (.seq (rsq [.d 15 4 3,.k 16 74 [15],oK 17 0] (.block 0 (.loop (rsq [oI 18 .lss 17 16] (.seq (.cond 18 .skip (.exit 0)) (.seq (.block 1 (.ax [.m 19 0,.k 20 67 [19]])) (.ax [oI 21 .add 17 (zK 1),.m 17 21]))))))) (rsq [.d 22 4 5,.s 4 4 22] .ret))))
abbrev tk:List ak:=[.aW 4 4]
def Ek:aq prog 27 2 Tryz.f27 tj tk:=.auto func27
def vR:AC:=rsq [oB 2 0,oA 4 zS4,oK 5 0,oK 6 0] (rsq [.d 11 4 2,.m 12 1,.k 13 75 [11,12],.m 10 13,.x 14 10 0,.x 15 10 1,.x 16 10 2,oA 7 zS4,.s 4 7 14,.m 8 15,.m 9 16] (.seq (rif [.m 17 9,oI 18 .neq 17 (zK 0)] 18 (rsq [oD 19 zS4 [],.m 20 9,.s 4 4 19,oK 5 0,.m 6 20] .ret) .skip) (rsq [.d 21 4 7,.k 22 76 [21],.m 23 8,.s 4 4 22,.m 5 23,oK 6 0] .ret)))
abbrev Nc:List ak:=[.aW 4 4,.tmp 5,.tmp 6]
def El:aq prog 29 2 Tryz.f29 vR Nc:=.auto func29
def Em:AC:=rsq [oB 1 0,oK 2 0] (rsq [oK 3 1] (rsq [.d 9 4 1,.k 10 77 [9],.m 8 10,.x 11 8 0,.x 12 8 1,.m 4 11,.m 5 12] (.seq (rsq [.m 13 4,oL 14 13,oK 15 0] (.block 0 (.loop (rsq [oI 16 .lss 15 14] (.seq (.cond 16 .skip (.exit 0)) (.seq (.block 1 (rsq [oJ 17 4 13 15,.d 18 4 17,oA 7 zS4,.s 4 7 18] (.ax [.m 19 3,.d 20 4 7,.k 21 30 [20],oI 22 .add 19 21,.m 3 22]))) (.ax [oI 23 .add 15 (zK 1),.m 15 23]))))))) (rsq [.m 24 3,.m 2 24] .ret))))
abbrev Nd:List ak:=[.tmp 2]
def Nf:aq prog 30 1 Tryz.f30 Em Nd:=.auto func30
def c31:AC:=rsq [oF 4] (rsq [oK 5 4096] (.seq (rsq [.m 8 1,oL 9 8,oK 10 0] (.block 0 (.loop (rsq [oI 11 .lss 10 9] (.seq (.cond 11 .skip (.exit 0)) (.seq (.block 1 (rsq [oJ 12 4 8 10,.d 13 4 12,oA 7 zS4,.s 4 7 13] (.ax [.m 14 0,.d 15 4 7,.m 16 5,.k 17 78 [14,15,16],.m 5 17]))) (.ax [oI 18 .add 10 (zK 1),.m 10 18]))))))) (rsq [.m 19 5,oI 20 .lss 19 (zK 0),.m 4 20] .ret)))
abbrev Ng:List ak:=[.tmp 4]
def Nh:aq prog 31 2 Tryz.f31 c31 Ng:=.auto func31
def En:AC:=rsq [oN 2] (rsq [oN 3] (.seq (rsq [.m 6 0,oL 7 6,oK 8 0] (.block 0 (.loop (rsq [oI 9 .lss 8 7] (.seq (.cond 9 .skip (.exit 0)) (.seq (.block 1 (rsq [oJ 10 5 6 8,.d 11 5 10,oA 5 [zC,zI,zC,zI,.ae []],.s 5 5 11] (.ax [.m 12 3,.f 13 1 5,.d 14 4 13,oS 15 4 [14],oQ 16 34 4 56 12 15,.m 3 16]))) (.ax [oI 17 .add 8 (zK 1),.m 8 17]))))))) (rsq [.m 18 3,.m 2 18] .ret)))
abbrev Eo:List ak:=[.tmp 2]
def Ni:aq prog 32 1 Tryz.f32 En Eo:=.auto func32
def vS:AC:=rsq [oN 2] (rsq [oN 3] (.seq (rsq [.m 10 0,.n 11 10,.f 12 5 11,.l 13 12,oL 14 13,oK 15 0] (.block 0 (.loop (rsq [oI 16 .lss 15 14] (.seq (.cond 16 .skip (.exit 0)) (.seq (.block 1 (rsq [oJ 17 5 13 15,.d 18 5 17,oA 5 [zC,zI,zC,zI,.ae []],.s 5 5 18] (drg [.m 19 3,.m 20 0,.n 21 20,.f 22 3 21,.l 23 22,.f 24 1 5,.d 25 4 24,.k 26 79 [23,25],oS 27 4 [26],oQ 28 34 4 56 19 27,.m 3 28] [1,2,3,4,5,6,107,0,208,309,410]))) (.ax [oI 29 .add 15 (zK 1),.m 15 29]))))))) (rsq [oD 31 zS4 [(1,1,(.k (.c (.str [111]))))],.m 32 3,.k 33 68 [31,32],.k 34 72 [33],.k 35 80 [34],.m 30 35,.x 36 30 0,.x 37 30 1,oA 7 zS4,.m 6 36,.s 4 7 37] (rsq [.m 38 0,.n 39 38,.f 40 5 39,.l 41 40,.k 42 81 [41],.m 8 42] (.seq (rsq [.m 43 8,oL 44 43,oK 45 0] (.block 2 (.loop (rsq [oI 46 .lss 45 44] (.seq (.cond 46 .skip (.exit 2)) (.seq (.block 3 (rsq [.m 47 45,.m 9 47] (.ax [.m 48 8,.m 49 9,.m 50 6,.m 51 9,oJ 52 4 50 51,.d 53 4 52,oJ 54 5 48 49,.f 55 1 54,.s 4 55 53]))) (.ax [oI 56 .add 45 (zK 1),.m 45 56]))))))) (rsq [.m 57 8,.m 2 57] .ret))))))
abbrev Nj:List ak:=[.tmp 2]
def Ep:aq prog 33 1 Tryz.f33 vS Nj:=.auto func33
def Ac:AC:=rsq [oB 3 1,oA 4 zS4,oA 5 zS4] (rsq [.m 9 0,.k 10 67 [9],oA 6 zS4,.s 4 6 10] (.seq (drg [.m 11 0,.m 12 0,.n 13 12,.f 14 4 13,.l 15 14,.f 16 1 3,.l 17 16,.d 18 4 6,oD 19 [zC,zI,zC,zI,.ae []] [(0,1,17),(1,4,18)],oS 20 5 [19],oQ 21 50 5 72 15 20,.n 22 11,.f 23 4 22,.s 1 23 21] [1,2,3,4,5,6,7,8,9,110,0,211,212,313]) (rsq [.m 25 0,.f 26 3 3,.l 27 26,oJ 28 5 27 (zK 0),.d 29 5 28,.k 30 25 [25,29],.m 24 30,.x 31 24 0,.x 32 24 1,oA 7 zS4,oA 8 zS4,.s 4 7 31,.s 4 8 32] (.seq (drg [.m 33 0,.m 34 0,.n 35 34,.f 36 4 35,.l 37 36,.m 38 0,.n 39 38,.f 40 4 39,.l 41 40,oL 42 41,oI 43 .sub 42 (zK 1),.o 44 (.gk 5 37 none (some 43) none),.n 45 33,.f 46 4 45,.s 1 46 44] [0,1,2,3,4,5,6,7,8,9,10,11,12,13,114]) (.seq (drg [.d 47 4 7,.k 48 118 [(zK 1),47],.d 49 4 8,.d 50 4 6,oS 51 4 [50],.k 52 68 [49,51],.s 4 4 48,.s 4 5 52] [0,101,2,3,4,305,506,707]) .ret)))))
abbrev Ad:List ak:=[.aW 4 4,.aW 4 5]
def Nk:aq prog 66 2 Tryz.f66 Ac Ad:=.auto func66
def c70:AC:=rsq [oB 3 1,oA 4 zS4,oA 5 zS4] (.seq (.seq (drg [.m 10 0,.n 11 10,.f 12 4 11,.l 13 12,.f 14 1 3,.l 15 14,.k 16 121 [13,15],.m 6 16] [0,1,2,3,4,5,106,207]) (rif [.m 17 6,oI 18 .geq 17 (zK 0)] 18 (.seq (drg [.m 19 0,.n 20 19,.f 21 4 20,.l 22 21,oL 23 22,oI 24 .sub 23 (zK 1),.m 25 6,oI 26 .sub 24 25,oD 27 zS4 [(0,1,(zK 3)),(2,1,26)],.m 28 0,.n 29 28,.f 30 4 29,.l 31 30,.m 32 6,oJ 33 5 31 32,.f 34 1 33,.d 35 4 34,.s 4 4 27,.s 4 5 35] [0,1,2,3,4,5,6,7,8,117,9,10,11,12,13,14,15,16,318]) .ret) .skip)) (.seq (rif [.f 36 0 3,.l 37 36,oI 38 .eql 37 (zK 1)] 38 (.seq (drg [.m 39 0,.n 40 39,.f 41 5 40,.l 42 41,.f 43 1 3,.l 44 43,.k 45 121 [42,44],.m 7 45] [0,1,2,3,4,5,106,207]) (.seq (rif [.m 46 7,oI 47 .lss 46 (zK 0)] 47 (rsq [.m 48 0,.n 49 48,.f 50 5 49,.l 51 50,oL 52 51,.m 7 52] (drg [.m 53 0,.m 54 0,.n 55 54,.f 56 5 55,.l 57 56,.f 58 1 3,.l 59 58,.m 60 0,.k 61 67 [60],oD 62 [zC,zI,zC,zI,.ae []] [(0,1,59),(1,4,61)],oS 63 5 [62],oQ 64 50 5 72 57 63,.n 65 53,.f 66 5 65,.s 1 66 64] [7,108,1,2,3,4,5,6,209,210,311,0,412,413,514])) .skip) (.seq (drg [.m 67 7,oD 68 zS4 [(0,1,(zK 4)),(2,1,67)],.m 69 0,.n 70 69,.f 71 5 70,.l 72 71,.m 73 7,oJ 74 5 72 73,.f 75 1 74,.d 76 4 75,.s 4 4 68,.s 4 5 76] [0,1,110,2,3,4,5,6,7,8,9,311]) .ret))) .skip) (rsq [.m 78 0,.f 79 1 3,.l 80 79,.k 81 122 [78,80],.m 77 81,.x 82 77 0,.x 83 77 1,oA 8 zS4,.s 4 8 82,.m 9 83] (.seq (rif [.m 84 9,oU 85 .not 84] 85 (.ax [.m 86 0,.f 87 4 3,.l 88 87,.k 89 28 [86,(zK 120),88]]) .skip) (.seq (drg [.f 90 1 3,.l 91 90,oD 92 zS4 [(1,1,91)],.d 93 4 8,.s 4 4 92,.s 4 5 93] [0,1,2,104,3,305]) .ret)))))
abbrev pF:List ak:=[.aW 4 4,.aW 4 5]
def tl:aq prog 70 2 Tryz.f70 c70 pF:=.auto func70
def vT:AC:=rsq [oB 4 1,oB 5 2,oN 6,oK 7 0] (rsq [.m 8 0,.d 9 4 4,oS 10 4 [9],.d 11 4 5,oS 12 4 [11],.k 13 123 [8,10,12],.x 14 13 0,.x 15 13 1,.m 6 14,.m 7 15] .ret)
abbrev Ae:List ak:=[.tmp 6,.tmp 7]
def Af:aq prog 71 3 Tryz.f71 vT Ae:=.auto func71
def c75:AC:=rsq [oB 2 0,oA 4 zS4,oK 5 0,oK 6 0] (rsq [.d 7 4 2,.m 8 1,.k 9 129 [7,8,(.k (.fn 130 []))],.x 10 9 0,.x 11 9 1,.x 12 9 2,.s 4 4 10,.m 5 11,.m 6 12] .ret)
abbrev Nl:List ak:=[.aW 4 4,.tmp 5,.tmp 6]
def Er:aq prog 75 2 Tryz.f75 c75 Nl:=.auto func75
def c76:AC:=rsq [oB 1 0,oA 2 zS4] (.seq (rsq [.f 9 0 1,.l 10 9] (.block 0 (rif [oI 12 .eql 10 (zK 5),.m 11 12] 11 (rsq [.f 13 3 1,.l 14 13,oJ 15 4 14 (zK 0),.d 16 4 15,.k 17 76 [16],oA 3 zS4,.s 4 3 17] (.seq (rsq [.d 19 4 3,.k 20 131 [19],.m 18 20,.x 21 18 0,.x 22 18 1,oA 4 zS4,.s 4 4 21,.m 5 22] (rif [.m 23 5] 23 (rsq [.d 24 4 4,.s 4 2 24] .ret) .skip)) (rsq [.d 25 4 3,.k 26 118 [(zK 1),25],.s 4 2 26] .ret))) (rif [oI 28 .eql 10 (zK 6),.m 27 28] 27 (rsq [oN 6] (.seq (rsq [.f 29 3 1,.l 30 29,oL 31 30,oK 32 0] (.block 1 (.loop (rsq [oI 33 .lss 32 31] (.seq (.cond 33 .skip (.exit 1)) (.seq (.block 2 (rsq [oJ 34 4 30 32,.d 35 4 34,oA 8 zS4,.s 4 8 35] (.ax [.m 36 6,.d 37 4 8,.k 38 76 [37],oS 39 4 [38],oQ 40 41 4 56 36 39,.m 6 40]))) (.ax [oI 41 .add 32 (zK 1),.m 32 41]))))))) (.seq (drg [.m 42 6,oJ 43 4 42 (zK 0),.d 44 4 43,.m 45 6,.o 46 (.gk 4 45 (some (zK 1)) none none),.k 47 69 [44,46],.s 4 2 47] [0,1,2,3,4,105,306]) .ret))) .skip)))) (rsq [.d 48 4 1,.s 4 2 48] .ret))
abbrev Nn:List ak:=[.aW 4 2]
def No:aq prog 76 1 Tryz.f76 c76 Nn:=.auto func76
def vU:AC:=rsq [oB 4 1,oK 6 0] (.seq (rif [.m 9 2,oI 10 .lss 9 (zK 0)] 10 (rsq [.m 11 2,.m 6 11] .ret) .skip) (.seq (.block 0 (.loop (.seq (.seq (drg [.f 12 0 4,.l 13 12,oI 14 .eql 13 (zK 1),.m 15 14,yV 16 0 15,.y 17 (.iD 16) 15,yF 18 3 17 15,yL 19 18 15,yF 20 2 4 15,yL 21 20 15,yJ 22 4 19 21 15,yF 23 0 22 15,yL 24 23 15,yI 25 .neq 24 (zK 1) 15,yV 26 25 15,yW 27 0 26,.z 28 (.iD 27) 26,yX 29 3 28 26,yT 30 29 26,yX 31 2 4 26,yT 32 31 26,.z 33 (.dm 4 30 32) 26,yX 34 2 33 26,yT 35 34 26,yX 36 2 4 26,yT 37 36 26,yB 38 .neq 35 37 26,.y 39 (.pick 26 zT 38) 15,oP 40 15 39 zF] [0,1,2,3,4,5,6,7,8,9,10,11,12,13,14,15,16,17,18,19,20,21,22,23,24,25,26,27,28]) (.cond 40 .skip (.exit 0))) (.block 1 (drg [.m 41 0,.n 42 41,.f 43 3 42,.l 44 43,.f 45 2 4,.l 46 45,oJ 47 4 44 46,.d 48 4 47,.s 4 4 48] [0,1,2,3,4,5,6,7,108]))))) (rsq [.m 49 2,oI 50 .sub 49 (zK 1),.m 2 50] (.seq (rsq [.f 51 3 4,.l 52 51,oL 53 52,oK 54 0] (.block 2 (.loop (rsq [oI 55 .lss 54 53] (.seq (.cond 55 .skip (.exit 2)) (.seq (.block 3 (rsq [oJ 56 4 52 54,.d 57 4 56,oA 8 zS4,.s 4 8 57] (.ax [.m 58 0,.d 59 4 8,.m 60 2,.k 61 78 [58,59,60],.m 2 61]))) (.ax [oI 62 .add 54 (zK 1),.m 54 62]))))))) (rsq [.m 63 2,.m 6 63] .ret)))))
abbrev Np:List ak:=[.tmp 6]
def Es:aq prog 78 3 Tryz.f78 vU Np:=.auto func78
def Et:AC:=rsq [oB 3 1,oA 4 zS4] (.seq (rif [.m 5 0,.d 6 4 3,oS 7 4 [6],.k 8 132 [5,7],oU 9 .not 8] 9 (rsq [.d 10 4 3,.s 4 4 10] .ret) .skip) (rsq [.m 11 0,.d 12 4 3,.k 13 133 [11,12],.s 4 4 13] .ret))
abbrev Nq:List ak:=[.aW 4 4]
def Ns:aq prog 79 2 Tryz.f79 Et Nq:=.auto func79
def vV:AC:=rsq [oA 4 zS4,oF 5] (rsq [.m 9 0,.n 10 9,.f 11 0 10,.d 12 3 11,.m 13 1,.k 14 15 [12,13],.m 8 14,.x 15 8 0,.x 16 8 1,oA 6 zS4,.s 4 6 15,.m 7 16] (.seq (rif [.m 17 7,oU 18 .not 17,.m 19 18,.z 20 (.ez 4 6) 19,.z 21 (.call (.k (.fn 24 [])) [20]) 19,.z 22 (.un .not 21) 19,oP 23 19 zT 22] 23 (rsq [oD 24 zS4 [],.s 4 4 24,oF 5] .ret) .skip) (rsq [.m 25 0,.d 26 4 6,.k 27 27 [25,26],.s 4 4 27,oV 5] .ret)))
abbrev Eu:List ak:=[.aW 4 4,.tmp 5]
def Ev:aq prog 122 2 Tryz.f122 vV Eu:=.auto func122
def tn:AC:=rsq [oN 6,oK 7 0] (.seq (rif [.m 12 1,oL 13 12,.m 14 2,oL 15 14,oI 16 .neq 13 15,.m 17 16,yW 18 0 17,yW 19 1 17,.z 20 (.call (.k (.fn 132 [])) [18,19]) 17,.z 21 (.un .not 20) 17,oP 22 17 zT 21,.m 23 22,yW 24 0 23,yW 25 2 23,.z 26 (.call (.k (.fn 132 [])) [24,25]) 23,.z 27 (.un .not 26) 23,oP 28 23 zT 27] 28 (rsq [.m 29 0,.m 6 29,oK 7 1] .ret) .skip) (rsq [oN 8] (.seq (rsq [.m 30 1,oL 31 30,oK 32 0] (.block 0 (.loop (rsq [oI 33 .lss 32 31] (.seq (.cond 33 .skip (.exit 0)) (.seq (.block 1 (rsq [.m 34 32,.m 9 34] (drg [.m 35 8,.m 36 1,.m 37 9,oJ 38 4 36 37,.d 39 4 38,.m 40 2,.m 41 9,oJ 42 4 40 41,.d 43 4 42,oD 44 [zI,zC,zI,.ae [],zI,zC,zI,.ae []] [(0,4,39),(4,4,43)],oS 45 8 [44],oQ 46 235 8 112 35 45,.m 8 46] [0,1,2,3,4,5,6,7,8,9,10,111,212]))) (.ax [oI 47 .add 32 (zK 1),.m 32 47]))))))) (rsq [.m 48 8,.k 49 180 [48]] (rsq [.m 50 0,.k 51 181 [50],.m 10 51] (.seq (rsq [.m 52 10,.m 53 8,.k 54 182 [52,53],.m 11 54] (rif [.m 55 11,oI 56 .neq 55 (zK 0)] 56 (rsq [.m 57 0,.m 58 11,.m 6 57,.m 7 58] .ret) .skip)) (rsq [.m 59 10,.m 6 59,oK 7 0] .ret)))))))
abbrev Ag:List ak:=[.tmp 6,.tmp 7]
def Ah:aq prog 123 3 Tryz.f123 tn Ag:=.auto func123
def Ai:AC:=rsq [oN 2] (.seq (rif [.m 3 0,.o 4 (.jd false 3)] 4 (rsq [oN 2] .ret) .skip) (rsq [oS 5 4 [],.m 6 0,oQ 7 34 4 56 5 6,.m 2 7] .ret))
abbrev Ew:List ak:=[.tmp 2]
def Ex:aq prog 181 1 Tryz.f181 Ai Ew:=.auto func181

end Go.Proofs.YtdlkenpilhakfaaGreatDoor
namespace Go.Lamb
open Go Go.RowKit
section
variable {P:Program} {w0:World} {f:FuncId} {args:List V} {σ:H}
def DC.Nt{e size k:Nat}{cs:List C}{c:Int}{b0:Nat}(hd:DC P w0 f args σ (fun v τ=>∃L F,v= .au [.vec (σ.length+L.length) k,.c (.int .i64 c)]/\τ=σ.set b0 .gone++(L++ .vec e size cs::F))):DC P w0 f args σ (Same (.au [.vec σ.length k,.c (.int .i64 c)]) (σ.set b0 .gone++[.vec e size cs])):=by
 refine⟨hd.enters,fun κ w vs r t=>(hd.run κ w vs r t).mono ?_⟩;rintro e' w' ⟨v,d0,Y,κ',rfl,⟨L,F,rfl,rfl⟩,Z,T,U⟩;obtain⟨σ1,A,D,G⟩:∃σ1:H,σ1=σ.set b0 .gone/\σ1.length=σ.length/\(∀B∈σ1,∀cs tg,B= .cells cs tg->∀x∈cs,V.low σ1.length x):=⟨_,rfl,bz ..,fun B J cs tg hc x M=>by
  rw[bz];rcases mr J with J|rfl
  ·exact r.ok B J cs tg hc x M
  ·cases hc⟩
 have hn:κ.n=σ1.length:=r.n.trans D.symm;rw[<-A]at T⊢;rw[<-D]at U⊢;clear r t;obtain⟨ι,hid,p⟩:∃ι:Nat->Nat,(∀b,b<σ1.length->ι b=b)/\ι σ1.length=σ1.length+L.length:=
  ⟨fun j=>if j<σ1.length then j else σ1.length+L.length,fun b N=>if_pos N,if_neg (Nat.lt_irrefl _)⟩
 have g:∀j,j<σ1.length+1->j<σ1.length\/j=σ1.length:=fun j h=>by omega
 refine⟨v,_,_,κ'.pack ι (σ1.length+1),rfl,⟨rfl,rfl⟩,K.yS Z (fun b N=>hid b (by rw[<-hn];exact N)) (by rw[hn];omega),T.pack (fun j E=>?_) (fun i j hi E u=>?_) (by simp) (fun j E hj' hι=>?_),U.pack ?_⟩
 ·rcases g j E with h|rfl
  ·rw[hid j h];simp;omega
  ·rw[p];simp
 ·rcases g i hi with h|rfl<;>rcases g j E with X|rfl
  ·rwa [hid i h,hid j X]at u
  ·rw[hid i h,p]at u;omega
  ·rw[hid j X,p]at u;omega
  ·rfl
 ·rcases g j E with h|rfl
  ·have O:(σ1++(L++ad.vec e size cs::F))[ι j]=σ1[j]:=by
    rw[nG,hid j h,cr h,aN h]
   have Q:(σ1++[ad.vec e size cs])[j]=σ1[j]:=cM h;rw[O,Q];exact ad.px hid (Nat.le_succ _) (fun cs tg hc x M=>G _ (bg h) cs tg hc x M)
  ·have O:(σ1++(L++ad.vec e size cs::F))[ι σ1.length]=ad.vec e size cs:=by
    rw[nG,p,da (by omega),fu,da (aA _),cw];rfl
   have Q:(σ1++[ad.vec e size cs])[σ1.length]=ad.vec e size cs:=by simp
   rw[O,Q];exact .vec _ _ _
 ·refine .au rfl fun q hq R=>?_
  match q,hq,R with
  |0,_,_=>
   have:=V.cy.vec (ι:=ι) (m:=σ1.length+1) (j:=σ1.length) (k:=k) (by omega);rw[p]at this;exact this
  |1,_,_=>exact .c _
end
def Ey{σ:H}(h:H.ok σ)(m:Nat):H.ok (σ.set m .gone):=fun B b cs tg hc x c=>by
 rw[bz];rcases mr b with b|rfl
 ·exact h B b cs tg hc x c
 ·cases hc
def Aj(s:List aa):rowsOf 4 s.length (aK s)=s.map aa.cs:=by
 have:=qo (fX s);rw[bY]at this;exact this
end Go.Lamb
namespace Go.Proofs.YtdlkenpilhakfaaGreatDoor
open Go.RowKit Go.Lamb
section
attribute [local go_sem] aa.v aa.aG aO aQ aL aH aM
def Nu(w0:World)(s:List aa)(j:s≠[])(hn:s.length<=1000000)(σ:H):DC prog w0 181 [.c (.sl (s.map aa.cs))] σ (Same (.vec σ.length s.length) (σ++[.vec 34 4 (aK s)])):=by
 have e:s.map aa.cs≠[]:=by simpa using j
 have p:∀r∈s.map aa.cs,r.length=4:=fX s;have g:s.length*56<=140737488355328:=by omega
 have h:s.length<=140737488355328:=by omega
 have i:(s.map aa.cs).length=s.length:=bY _;have t:(s.map aa.cs).flatten=aK s:=rfl;rw[<-t,<-i];rw[<-i]at g h;generalize s.map aa.cs=l at*
 refine Ex.cl rfl (fun u w=>?_);apply bl;simp only[go_sem,Ai];refine W.lH rfl rfl rfl (fun b A=>?_);cases b
 ·apply bl;simp only[go_sem];refine W.no rfl ?_;refine W.skip (W.seq (W.ax (W.kg rfl rfl (W.kg rfl rfl ?_))));refine W.nN (olds:=[]) (news:=l) rfl rfl rfl rfl ⟨e,(fun r D=>by cases D),p,by simpa using g,by simpa using h⟩ ?_;apply bl;simp only[go_sem,dK];refine W.ret ⟨_,_,rfl,.rfl _,?_⟩;exact⟨rfl,rfl⟩
 ·exact absurd (A rfl) e
def Yl(w0:World)(σ:H):DC prog w0 181 [.ae []] σ (Same (.c (.sl [])) σ):=by
 refine Ex.go rfl (fun e g=>?_);apply bl;simp only[go_sem,Ai];refine W.lH rfl rfl rfl (fun b h=>?_);cases b
 ·apply bl;simp only[go_sem];refine wN ?_;simp only[go_sem,ne_eq,not_false_eq_true,or_false,true_or,Nat.zero_mul,be];refine W.ret (Fin.lK (vs:=[.aC σ.length []]) e rfl (by simp only[aX,Ew,go_sem]) (.aC _ _) (.c _) rfl)
 ·apply bl;simp only[go_sem];refine wY ?_;simp only[go_sem];refine W.ret (Fin.lK (vs:=[.ae []]) e rfl (by simp only[aX,Ew,go_sem]) (.ae _) (.c _) (cd _).symm)
def Ym(w0:World){N:Nat}{s:List aa}(G:bO N s)(J:1<=N)(L:N<=1000000)(E:s.length<=1000000)(M:s≠[]){a b:aa}(ha:ay s.length a)(T:aw a<=N)(Q:ay s.length b)(U:aw b<=N){s':List aa}(h:ee 4096 s [(a,b)] 0 s')(bs:Nat)(σ:H)(g:σ[bs]?=some (.vec 34 4 (aK s))):
  DC prog w0 123 [.vec bs s.length,.c (.sl [a.cs]),.c (.sl [b.cs])] σ (Same (.au [.vec σ.length s.length,I 0]) (σ.set bs .gone++[.vec 34 4 (aK s')])):=by
 obtain⟨e,R⟩:∃e:Int,e=0:=⟨_,rfl⟩;rw[<-R]at h;have j:∀(τ:H),τ[bs]?=some (.vec 34 4 (aK s))->DC prog w0 132 [.vec bs s.length,.c (.sl [a.cs])] τ (Same (B true) τ):=fun τ h=>vJ w0 G L E [a] (fun t u=>by simp at u;subst u;exact⟨ha,by omega⟩) τ bs h;have w:∀(τ:H),τ[bs]?=some (.vec 34 4 (aK s))->DC prog w0 132 [.vec bs s.length,.c (.sl [b.cs])] τ (Same (B true) τ):=fun τ h=>vJ w0 G L E [b] (fun t u=>by simp at u;subst u;exact⟨Q,by omega⟩) τ bs h;simp only[aa.aG]at j w;have X:=(aI.1 g).1
 have A:DC prog w0 180 [.vec σ.length 1] (σ++[.vec 235 8 (aU [(a,b)])]) (Same (.au []) (σ++[.vec 235 8 (aU [(a,b)])])):=by
  have:=vN w0 [(a,b)] (by simp) σ.length (σ++[.vec 235 8 (aU [(a,b)])]) (by rw[cQ];rfl);rw[sk]at this;exact this
 have O:=fun τ=>Nu w0 s M E τ;have D:DC prog w0 182 [.vec (σ.length+1) s.length,.vec σ.length 1] (σ.set bs .gone++[.vec 235 8 (aU [(a,b)]),.vec 34 4 (aK s)]) (Same (I e) (σ.set bs .gone++[.gone,.vec 34 4 (aK s')])):=by
  have:=M6 w0 G J L E (st0:=[(a,b)]) (fun p hp=>by simp at hp;subst hp;exact⟨ha,Q,T,U⟩) (by simp) h (σ.length+1) σ.length (by omega) (σ.set bs .gone++[.vec 235 8 (aU [(a,b)]),.vec 34 4 (aK s)]) (by rw[yc];rfl) (by rw[B8];rfl);rw[gF,B9]at this;exact this
 subst R;refine DC.Nt ?_;refine Ah.cl rfl (fun Y Z=>?_);apply bl;simp only[go_sem,tn];(refine db (j σ g) ?_;simp only[go_sem]);(refine db (w σ g) ?_;simp only[go_sem]);refine wN ?_;simp only[go_sem];refine W.aY (α:=Bool) (fun _=>True) (fun o=>match o with
  |false=>⟨((((((base.put (some 0) (.vec bs s.length)).put (some 1) (.c (.sl [[.int .i64 a.k,.str a.name,.int .i64 a.n,.sl (a.l.map aa.cs)]]))).put (some 2) (.c (.sl [[.int .i64 b.k,.str b.name,.int .i64 b.n,.sl (b.l.map aa.cs)]]))).put (some 8) (.ae [])).put (some 31) (I 1)).put (some 32) (I 0)),σ⟩
  |true=>⟨((((((base.put (some 0) (.vec bs s.length)).put (some 1) (.c (.sl [[.int .i64 a.k,.str a.name,.int .i64 a.n,.sl (a.l.map aa.cs)]]))).put (some 2) (.c (.sl [[.int .i64 b.k,.str b.name,.int .i64 b.n,.sl (b.l.map aa.cs)]]))).put (some 8) (.vec σ.length 1)).put (some 31) (I 1)).put (some 32) (I 1)),σ++[.vec 235 8 (aU [(a,b)])]⟩) (fun o=>match o with|false=>1|true=>0) false trivial ?_ (fun o _=>?_)
 ·dsimp only
  exact wV
 cases o with
 |false=>
  dsimp only
  have F:((0:Int)<1):=by decide
  have hw:aE.wrap (0+1)=1:=by decide
  have i:aU [(a,b)]=bR (a,b):=by simp[aU]
  apply bl;simp only[go_sem,F];refine wY ?_;simp only[go_sem];apply W.aD (aF _ _)
  case hc=>
   iterate 11 (apply ab.quiet (dN.step rfl (by(simp only[go_sem,F,bu]);rfl));case hp=>(intro τ P;simp at P))
   apply ab.bL
   case h=>exact fh.vec (x:=.t 35) (y:=.t 45) (e:=235) (size:=8) (bytes:=112) (olds:=[]) (news:=[bR (a,b)]) rfl rfl rfl rfl ⟨by simp,(fun r i=>by cases i),(fun r i=>by simp at i;subst i;rfl),by simp,by simp⟩
   (apply ab.aj;simp only[go_sem,bC,dS,kO,bR]);exact ab.nil
  apply bl;simp only[go_sem,hw];refine .inv ⟨true,by decide,?_⟩;dsimp only
  rw[i];simp only[bR];exact wV
 |true=>
  dsimp only
  have F:¬((1:Int)<1):=by decide
  apply bl;simp only[go_sem,F];refine wN ?_;simp only[go_sem];(refine db (A) ?_;simp only[go_sem]);refine W.jj (b:=bs) (e:=34) (size:=4) (k:=s.length) (cs:=aK s) 50 rfl (hG g _) (oZ (gC s).symm) ?_;rw[Aj,hS g];apply bl;simp only[go_sem];(refine db (O _) ?_;simp only[go_sem]);(refine db (D) ?_;simp only[go_sem]);refine wN ?_;simp only[go_sem];exact W.ret ⟨_,_,(by simp only[aX,Ag,go_sem];rfl),.rfl _,⟨[.gone],[],rfl,rfl⟩⟩
def Yn(w0:World){N:Nat}{s:List aa}(J:bO N s)(L:1<=N)(M:N<=1000000)(F:s.length<=1000000)(O:s≠[]){a b:aa}(ha:ay s.length a)(Z:aw a<=N)(X:ay s.length b)(nb:aw b<=N){e:Int}{s':List aa}(h:ee 4096 s [(a,b)] e s')(he:e≠0)(bs:Nat)(σ:H)(g:σ[bs]?=some (.vec 34 4 (aK s))):
  DC prog w0 123 [.vec bs s.length,.c (.sl [a.cs]),.c (.sl [b.cs])] σ (Same (.au [.vec bs s.length,I e]) (σ.set bs .gone)):=by
 have j:∀(τ:H),τ[bs]?=some (.vec 34 4 (aK s))->DC prog w0 132 [.vec bs s.length,.c (.sl [a.cs])] τ (Same (B true) τ):=fun τ h=>vJ w0 J M F [a] (fun t u=>by simp at u;subst u;exact⟨ha,by omega⟩) τ bs h;have w:∀(τ:H),τ[bs]?=some (.vec 34 4 (aK s))->DC prog w0 132 [.vec bs s.length,.c (.sl [b.cs])] τ (Same (B true) τ):=fun τ h=>vJ w0 J M F [b] (fun t u=>by simp at u;subst u;exact⟨X,by omega⟩) τ bs h;simp only[aa.aG]at j w;have P:=(aI.1 g).1;have A:DC prog w0 180 [.vec σ.length 1] (σ++[.vec 235 8 (aU [(a,b)])]) (Same (.au []) (σ++[.vec 235 8 (aU [(a,b)])])):=by
  have:=vN w0 [(a,b)] (by simp) σ.length (σ++[.vec 235 8 (aU [(a,b)])]) (by rw[cQ];rfl);rw[sk]at this;exact this
 have Q:=fun τ=>Nu w0 s O F τ;have D:DC prog w0 182 [.vec (σ.length+1) s.length,.vec σ.length 1] (σ.set bs .gone++[.vec 235 8 (aU [(a,b)]),.vec 34 4 (aK s)]) (Same (I e) (σ.set bs .gone++[.gone,.vec 34 4 (aK s')])):=by
  have:=M6 w0 J L M F (st0:=[(a,b)]) (fun p hp=>by simp at hp;subst hp;exact⟨ha,X,Z,nb⟩) (by simp) h (σ.length+1) σ.length (by omega) (σ.set bs .gone++[.vec 235 8 (aU [(a,b)]),.vec 34 4 (aK s)]) (by rw[yc];rfl) (by rw[B8];rfl);rw[gF,B9]at this;exact this
 have R:(e !=0)=true:=by simp[he]
 refine Ah.go rfl (fun T hsz=>?_);have E:H.ok (σ.set bs .gone):=Ey T bs;apply bl;simp only[go_sem,tn];(refine db (j σ g) ?_;simp only[go_sem]);(refine db (w σ g) ?_;simp only[go_sem]);refine wN ?_;simp only[go_sem];refine W.aY (α:=Bool) (fun _=>True) (fun o=>match o with
  |false=>⟨((((((base.put (some 0) (.vec bs s.length)).put (some 1) (.c (.sl [[.int .i64 a.k,.str a.name,.int .i64 a.n,.sl (a.l.map aa.cs)]]))).put (some 2) (.c (.sl [[.int .i64 b.k,.str b.name,.int .i64 b.n,.sl (b.l.map aa.cs)]]))).put (some 8) (.ae [])).put (some 31) (I 1)).put (some 32) (I 0)),σ⟩
  |true=>⟨((((((base.put (some 0) (.vec bs s.length)).put (some 1) (.c (.sl [[.int .i64 a.k,.str a.name,.int .i64 a.n,.sl (a.l.map aa.cs)]]))).put (some 2) (.c (.sl [[.int .i64 b.k,.str b.name,.int .i64 b.n,.sl (b.l.map aa.cs)]]))).put (some 8) (.vec σ.length 1)).put (some 31) (I 1)).put (some 32) (I 1)),σ++[.vec 235 8 (aU [(a,b)])]⟩) (fun o=>match o with|false=>1|true=>0) false trivial ?_ (fun o _=>?_)
 ·dsimp only
  exact wV
 cases o with
 |false=>
  dsimp only
  have G:((0:Int)<1):=by decide
  have hw:aE.wrap (0+1)=1:=by decide
  have i:aU [(a,b)]=bR (a,b):=by simp[aU]
  apply bl;simp only[go_sem,G];refine wY ?_;simp only[go_sem];apply W.aD (aF _ _)
  case hc=>
   iterate 11 (apply ab.quiet (dN.step rfl (by(simp only[go_sem,G,bu]);rfl));case hp=>(intro τ U;simp at U))
   apply ab.bL
   case h=>exact fh.vec (x:=.t 35) (y:=.t 45) (e:=235) (size:=8) (bytes:=112) (olds:=[]) (news:=[bR (a,b)]) rfl rfl rfl rfl ⟨by simp,(fun r i=>by cases i),(fun r i=>by simp at i;subst i;rfl),by simp,by simp⟩
   (apply ab.aj;simp only[go_sem,bC,dS,kO,bR]);exact ab.nil
  apply bl;simp only[go_sem,hw];refine .inv ⟨true,by decide,?_⟩;dsimp only
  rw[i];simp only[bR];exact wV
 |true=>
  dsimp only
  have G:¬((1:Int)<1):=by decide
  apply bl;simp only[go_sem,G];refine wN ?_;simp only[go_sem];(refine db (A) ?_;simp only[go_sem]);refine W.jj (b:=bs) (e:=34) (size:=4) (k:=s.length) (cs:=aK s) 50 rfl (hG g _) (oZ (gC s).symm) ?_;rw[Aj,hS g];apply bl;simp only[go_sem];(refine db (Q _) ?_;simp only[go_sem]);(refine db (D) ?_;simp only[go_sem,R]);refine wY ?_;simp only[go_sem];refine W.ret (Fin.lK E (bz ..) (by simp only[aX,Ag,go_sem];rfl) (.rfl _) (.au fun x Y=>?_) rfl);simp at Y;rcases Y with rfl|rfl
  ·exact .vec P
  ·exact .c _
def Yo(w0:World){N:Nat}(O:N<=1000000){a b:aa}(ha:ay 0 a)(P:aw a<=N)(L:ay 0 b)(Q:aw b<=N){e:Int}(h:ee 4096 [] [(a,b)] e [])(σ:H):
  DC prog w0 123 [.ae [],.c (.sl [a.cs]),.c (.sl [b.cs])] σ (Same (.au [.c (.sl []),I e]) σ):=by
 have w:∀(τ:H),DC prog w0 132 [.ae [],.c (.sl [a.cs])] τ (Same (B true) τ):=fun τ=>MU w0 [a] (fun t E=>by simp at E;subst E;exact⟨ha,by omega⟩) τ;have A:∀(τ:H),DC prog w0 132 [.ae [],.c (.sl [b.cs])] τ (Same (B true) τ):=fun τ=>MU w0 [b] (fun t E=>by simp at E;subst E;exact⟨L,by omega⟩) τ;simp only[aa.aG]at w A;have j:DC prog w0 180 [.vec σ.length 1] (σ++[.vec 235 8 (aU [(a,b)])]) (Same (.au []) (σ++[.vec 235 8 (aU [(a,b)])])):=by
  have:=vN w0 [(a,b)] (by simp) σ.length (σ++[.vec 235 8 (aU [(a,b)])]) (by rw[cQ];rfl);rw[sk]at this;exact this
 have F:=fun τ=>Yl w0 τ;have u:DC prog w0 182 [.c (.sl []),.vec σ.length 1] (σ++[.vec 235 8 (aU [(a,b)])]) (Same (I e) (σ++[.gone])):=Yj w0 O (st0:=[(a,b)]) (fun p hp=>by simp at hp;subst hp;exact⟨ha,L,P,Q⟩) (by simp) h σ;refine Ah.go rfl (fun G R=>?_);by_cases M:e=0
 ·subst M;apply bl;simp only[go_sem,tn];(refine db (w σ) ?_;simp only[go_sem]);(refine db (A σ) ?_;simp only[go_sem]);refine wN ?_;simp only[go_sem];refine W.aY (α:=Bool) (fun _=>True) (fun o=>match o with
   |false=>⟨((((((base.put (some 0) (.ae [])).put (some 1) (.c (.sl [[.int .i64 a.k,.str a.name,.int .i64 a.n,.sl (a.l.map aa.cs)]]))).put (some 2) (.c (.sl [[.int .i64 b.k,.str b.name,.int .i64 b.n,.sl (b.l.map aa.cs)]]))).put (some 8) (.ae [])).put (some 31) (I 1)).put (some 32) (I 0)),σ⟩
   |true=>⟨((((((base.put (some 0) (.ae [])).put (some 1) (.c (.sl [[.int .i64 a.k,.str a.name,.int .i64 a.n,.sl (a.l.map aa.cs)]]))).put (some 2) (.c (.sl [[.int .i64 b.k,.str b.name,.int .i64 b.n,.sl (b.l.map aa.cs)]]))).put (some 8) (.vec σ.length 1)).put (some 31) (I 1)).put (some 32) (I 1)),σ++[.vec 235 8 (aU [(a,b)])]⟩) (fun o=>match o with|false=>1|true=>0) false trivial ?_ (fun o _=>?_)
  ·dsimp only
   exact wV
  cases o with
  |false=>
   dsimp only
   have i:((0:Int)<1):=by decide
   have hw:aE.wrap (0+1)=1:=by decide
   have g:aU [(a,b)]=bR (a,b):=by simp[aU]
   apply bl;simp only[go_sem,i];refine wY ?_;simp only[go_sem];apply W.aD (aF _ _)
   case hc=>
    iterate 11 (apply ab.quiet (dN.step rfl (by(simp only[go_sem,i,bu]);rfl));case hp=>(intro τ D;simp at D))
    apply ab.bL
    case h=>exact fh.vec (x:=.t 35) (y:=.t 45) (e:=235) (size:=8) (bytes:=112) (olds:=[]) (news:=[bR (a,b)]) rfl rfl rfl rfl ⟨by simp,(fun r g=>by cases g),(fun r g=>by simp at g;subst g;rfl),by simp,by simp⟩
    (apply ab.aj;simp only[go_sem,bC,dS,kO,bR]);exact ab.nil
   apply bl;simp only[go_sem,hw];refine .inv ⟨true,by decide,?_⟩;dsimp only
   rw[g];simp only[bR];exact wV
  |true=>
   dsimp only
   have i:¬((1:Int)<1):=by decide
   apply bl;simp only[go_sem,i];refine wN ?_;simp only[go_sem];(refine db (j) ?_;simp only[go_sem]);(refine db (F _) ?_;simp only[go_sem]);(refine db (u) ?_;simp only[go_sem]);refine wN ?_;simp only[go_sem];exact wF G
 ·have J:(e !=0)=true:=by simp[M]
  apply bl;simp only[go_sem,tn];(refine db (w σ) ?_;simp only[go_sem]);(refine db (A σ) ?_;simp only[go_sem]);refine wN ?_;simp only[go_sem];refine W.aY (α:=Bool) (fun _=>True) (fun o=>match o with
   |false=>⟨((((((base.put (some 0) (.ae [])).put (some 1) (.c (.sl [[.int .i64 a.k,.str a.name,.int .i64 a.n,.sl (a.l.map aa.cs)]]))).put (some 2) (.c (.sl [[.int .i64 b.k,.str b.name,.int .i64 b.n,.sl (b.l.map aa.cs)]]))).put (some 8) (.ae [])).put (some 31) (I 1)).put (some 32) (I 0)),σ⟩
   |true=>⟨((((((base.put (some 0) (.ae [])).put (some 1) (.c (.sl [[.int .i64 a.k,.str a.name,.int .i64 a.n,.sl (a.l.map aa.cs)]]))).put (some 2) (.c (.sl [[.int .i64 b.k,.str b.name,.int .i64 b.n,.sl (b.l.map aa.cs)]]))).put (some 8) (.vec σ.length 1)).put (some 31) (I 1)).put (some 32) (I 1)),σ++[.vec 235 8 (aU [(a,b)])]⟩) (fun o=>match o with|false=>1|true=>0) false trivial ?_ (fun o _=>?_)
  ·dsimp only
   exact wV
  cases o with
  |false=>
   dsimp only
   have i:((0:Int)<1):=by decide
   have hw:aE.wrap (0+1)=1:=by decide
   have g:aU [(a,b)]=bR (a,b):=by simp[aU]
   apply bl;simp only[go_sem,i];refine wY ?_;simp only[go_sem];apply W.aD (aF _ _)
   case hc=>
    iterate 11 (apply ab.quiet (dN.step rfl (by(simp only[go_sem,i,bu]);rfl));case hp=>(intro τ D;simp at D))
    apply ab.bL
    case h=>exact fh.vec (x:=.t 35) (y:=.t 45) (e:=235) (size:=8) (bytes:=112) (olds:=[]) (news:=[bR (a,b)]) rfl rfl rfl rfl ⟨by simp,(fun r g=>by cases g),(fun r g=>by simp at g;subst g;rfl),by simp,by simp⟩
    (apply ab.aj;simp only[go_sem,bC,dS,kO,bR]);exact ab.nil
   apply bl;simp only[go_sem,hw];refine .inv ⟨true,by decide,?_⟩;dsimp only
   rw[g];simp only[bR];exact wV
  |true=>
   dsimp only
   have i:¬((1:Int)<1):=by decide
   apply bl;simp only[go_sem,i];refine wN ?_;simp only[go_sem];(refine db (j) ?_;simp only[go_sem]);(refine db (F _) ?_;simp only[go_sem]);(refine db (u) ?_;simp only[go_sem,J]);refine wY ?_;simp only[go_sem];exact wF G
def Yp(w0:World){N:Nat}{s:List aa}(p:bO N s)(i:1<=N)(r:N<=1000000)(t:s.length<=1000000)(j:s≠[]){a b:aa}(ha:ay s.length a)(u:aw a<=N)(w:ay s.length b)(A:aw b<=N){s':List aa}(h:ee 4096 s [(a,b)] 0 s')(bs:Nat)(σ:H)(g:σ[bs]?=some (.vec 34 4 (aK s))):
  DC prog w0 71 [.vec bs s.length,a.v,b.v] σ (Same (.au [.vec σ.length s.length,I 0]) (σ.set bs .gone++[.vec 34 4 (aK s')])):=by
 have e:∀c d:ad,DC prog w0 123 [.vec bs s.length,.c (.sl [a.cs]),.c (.sl [b.cs])] (σ++[c,d]) (Same (.au [.vec (σ.length+2) s.length,I 0]) (σ.set bs .gone++[c,d,.vec 34 4 (aK s')])):=fun c d=>by
  have:=Ym w0 p i r t j ha u w A h bs (σ++[c,d]) (hG g _);rw[hS g,dq,bC]at this;exact this
 simp only[aa.aG]at e;refine DC.Nt ?_;refine Af.cl rfl (fun D E=>?_);apply bl;simp only[go_sem,vT];(refine W.fV (e _ _) ?_;simp only[go_sem]);exact W.ret ⟨_,_,(by simp only[aX,Ae,go_sem];rfl),.rfl _,⟨[_,_],[],rfl,rfl⟩⟩
def Yq(w0:World){N:Nat}{s:List aa}(A:bO N s)(p:1<=N)(D:N<=1000000)(E:s.length<=1000000)(r:s≠[]){a b:aa}(ha:ay s.length a)(F:aw a<=N)(G:ay s.length b)(J:aw b<=N){e:Int}{s':List aa}(h:ee 4096 s [(a,b)] e s')(L:e≠0)(bs:Nat)(σ:H)(i:σ[bs]?=some (.vec 34 4 (aK s))):
  DC prog w0 71 [.vec bs s.length,a.v,b.v] σ (Same (.au [.vec bs s.length,I e]) (σ.set bs .gone)):=by
 have t:=(aI.1 i).1;have g:∀c d:ad,DC prog w0 123 [.vec bs s.length,.c (.sl [a.cs]),.c (.sl [b.cs])] (σ++[c,d]) (Same (.au [.vec bs s.length,I e]) (σ.set bs .gone++[c,d])):=fun c d=>by
  have:=Yn w0 A p D E r ha F G J h L bs (σ++[c,d]) (hG i _);rwa [hS i]at this
 simp only[aa.aG]at g;refine Af.go rfl (fun u M=>?_);have j:H.ok (σ.set bs .gone):=Ey u bs;apply bl;simp only[go_sem,vT];(refine W.fV (g _ _) ?_;simp only[go_sem]);refine W.ret (Fin.lK j (bz ..) (by simp only[aX,Ae,go_sem];rfl) (.rfl _) (.au fun x w=>?_) rfl);simp at w;rcases w with rfl|rfl
 ·exact .vec t
 ·exact .c _
def Yr(w0:World){N:Nat}(j:N<=1000000){a b:aa}(ha:ay 0 a)(p:aw a<=N)(r:ay 0 b)(t:aw b<=N){e:Int}(h:ee 4096 [] [(a,b)] e [])(σ:H):
  DC prog w0 71 [.ae [],a.v,b.v] σ (Same (.au [.c (.sl []),I e]) σ):=by
 have g:∀c d:ad,DC prog w0 123 [.ae [],.c (.sl [a.cs]),.c (.sl [b.cs])] (σ++[c,d]) (Same (.au [.c (.sl []),I e]) (σ++[c,d])):=fun c d=>Yo w0 j ha p r t h (σ++[c,d]);simp only[aa.aG]at g;refine Af.go rfl (fun i u=>?_);apply bl;simp only[go_sem,vT];(refine W.fV (g _ _) ?_;simp only[go_sem]);exact wF i
end
end Go.Proofs.YtdlkenpilhakfaaGreatDoor
namespace Go.Lamb
open Go Go.RowKit
mutual
inductive lT (s:List aa):aa->aa->Prop where
 |var {t u:aa} {n:Nat} (h:eP s t u n) (hk:u.k=1):lT s t u
 |gK {t u:aa} {n:Nat} {w:List aa} (h:eP s t u n) (hk:u.k≠1) (r:fY s u.l w):lT s t (.mk u.k u.name 0 w)
inductive fY (s:List aa):List aa->List aa->Prop where
 |nil:fY s [] []
 |cons {t u:aa} {l w:List aa} (r:lT s t u) (rs:fY s l w):fY s (t::l) (u::w)
end
def fY.len{s:List aa}:∀{l w:List aa},fY s l w->w.length=l.length
 |_,_,.nil=>rfl
 |_,_,.cons r rs=>by rw[bG,bG,rs.len]
def Ys{s:List aa}{c:Int->Nat}(E:uW s c)(m:Nat):∀(t:aa),ay s.length t->(∀v,dc v t=true->c v<m)->∃u,lT s t u:=by
 induction m using Nat.strongRecOn with
 |ind m i=>
  have gK:∀(t:aa),ay s.length t->t.k≠1->(∀v,dc v t=true->c v<m)->(∀u∈t.l,ay s.length u->(∀v,dc v u=true->c v<m)->∃w,lT s u w)->∃w,fY s t.l w:=fun t e hk g j=>by
   have key:∀l:List aa,(∀u∈l,u∈t.l)->∃w,fY s l w:=by
    intro l;induction l with
    |nil=>exact fun _=>⟨[],.nil⟩
    |cons x l p=>
     intro b;have A:=b x (aZ ..);obtain⟨w,r⟩:=j x A (e.dA hk A) (fun v F=>g v ((lO hk).2 ⟨x,A,F⟩));obtain⟨G,rs⟩:=p (fun u D=>b u (bH _ D));exact⟨w::G,.cons r rs⟩
   exact key t.l (fun _ h=>h)
  intro t;refine aa.ind (P:=fun t=>ay s.length t->(∀v,dc v t=true->c v<m)->∃u,lT s t u) (fun t j e g=>?_) t;by_cases hk:t.k=1
  ·cases b:bJ s t
   ·exact⟨t,.var (.stop b) hk⟩
   ·obtain⟨g1,J⟩:=E.less t e b;obtain⟨u,r⟩:=i (c t.n) (g t.n ((mS hk).2 rfl)) (cq s t.n) g1 J;cases r with
    |var h hk=>exact⟨_,.var (.go b h) hk⟩
    |gK h hk r=>exact⟨_,.gK (.go b h) hk r⟩
  ·have b:bJ s t=false:=by
    cases h:bJ s t
    ·rfl
    ·exact absurd (fk h) hk
   obtain⟨w,r⟩:=gK t e hk g (fun u D=>j u D);exact⟨_,.gK (.stop b) hk r⟩
def pG(n b k:Nat):V.low n (.vec b k)↔b<n:=⟨fun h=>by cases h;assumption,fun h=>.vec h⟩
end Go.Lamb
namespace Go.Proofs.YtdlkenpilhakfaaGreatDoor
open Go.RowKit Go.Lamb
section
attribute [local go_sem] aa.v aa.aG aO aQ aL aH aM
def Nv(w0:World){s:List aa}(b:Nat)(σ:H)(E:σ[b]?=some (.vec 34 4 (aK s))){t u:aa}(hd:∀e:H,e[b]?=some (.vec 34 4 (aK s))->DC prog w0 191 [.vec b s.length,t.v] e (Same u.v e)):
  (u.k=1->DC prog w0 133 [.vec b s.length,t.v] σ (Same u.v σ))/\(u.k≠1->∀w:List aa,w.length=u.l.length->u.l.length<=1000000->
    (∀i (O:i<u.l.length) (P:i<w.length) (e:H),e[b]?=some (.vec 34 4 (aK s))->DC prog w0 133 [.vec b s.length,u.l[i].v] e (Same w[i].v e))->DC prog w0 133 [.vec b s.length,t.v] σ (Same (aa.mk u.k u.name 0 w).v σ)):=by
 refine⟨fun hk=>?_,fun hk w hw hn p=>?_⟩
 ·have F:(u.k==1)=true:=by simp[hk]
  refine D3.go rfl (fun g G=>?_);apply bl;simp only[go_sem,zS];(refine db (hd _ (hG E _)) ?_;simp only[go_sem,F]);refine wY ?_;simp only[go_sem];exact wF g
 ·have F:(u.k==1)=false:=by simp[hk]
  have N:=(aI.1 E).1;refine D3.go rfl (fun g G=>?_);apply bl;simp only[go_sem,zS];(refine db (hd _ (hG E _)) ?_;simp only[go_sem,F]);refine wN ?_;simp only[go_sem];refine W.aY (α:=Option Nat) (fun o=>match o with|none=>True|some i=>1<=i/\i<=u.l.length) (fun o=>match o with
   |none=>⟨((((((base.put (some 0) (.vec b s.length)).put (some 4) (.ptr (σ.length+1) 0)).put (some 5) (.ptr (σ.length+2) 0)).put (some 21) (.c (.sl (u.l.map aa.cs)))).put (some 22) (I (u.l.length:Int))).put (some 23) (I 0)),σ++[.cells [I u.k,S u.name,I u.n,.c (.sl (u.l.map aa.cs))],.cells [I 0,S [],I 0,.ae []],.cells [I u.k,S u.name,I 0,.ae []]]⟩
   |some i=>⟨((((((base.put (some 0) (.vec b s.length)).put (some 4) (.ptr (σ.length+1) 0)).put (some 5) (.ptr (σ.length+2) 0)).put (some 21) (.c (.sl (u.l.map aa.cs)))).put (some 22) (I (u.l.length:Int))).put (some 23) (I (i:Int))),σ++[.cells [I u.k,S u.name,I u.n,.c (.sl (u.l.map aa.cs))],.cells [I 0,S [],I 0,.ae []],.cells [I u.k,S u.name,I 0,.aC (σ.length+4) ((w.take i).map aa.cs)],.gone,.spare 34 4 i]⟩) (fun o=>match o with|none=>u.l.length+1|some i=>u.l.length-i) none trivial ?_ (fun o Q=>?_)
  ·dsimp only
   exact wV
  cases o with
  |none=>
   dsimp only
   by_cases h0:0<u.l.length
   ·have j:(0:Int)<(u.l.length:Int):=by omega
    have r:u.l[0]?=some u.l[0]:=aN h0;have J:=p 0 h0 (by omega);have h:w.take 1=[w[0]]:=by
     cases w with
     |nil=>simp at hw;omega
     |cons x w=>rfl
    have A:aE.wrap (0+1)=((1:Nat):Int):=by decide
    generalize u.l[0]=x at*;generalize w[0]=y at*
    apply bl;simp only[go_sem,j];refine wY ?_;simp only[go_sem,j,r];apply W.aD (aF _ _)
    case hc=>
     (apply ab.aj;simp only[go_sem]);(apply ab.call (J _ (hG E _))<;>try rfl);(apply ab.aj;simp only[go_sem,true_or]);exact ab.nil
    apply bl;simp only[go_sem,A];refine .inv ⟨some 1,⟨aA _,h0⟩,by dsimp only;omega,?_⟩;dsimp only
    rw[h];simp only[ck,cP,aa.aG];(refine aV.lJ (g) ?_ (by simp) (by simp) ?_ ?_ ?_;exact dZ;((try simp only[okB,cT,go_sem,pG])<;>omega);(simp only[bG,dU,iA,jW,ey,cT,and_true];(repeat' (refine mq ?_ ?_))<;>(first|exact ad.wk.rfl _|exact ad.wk.gone _|(refine ad.lL ?_ rfl;(exact aR))));(repeat' (first|exact cK.base _|(refine cK.put ?_ (by first|exact .c _|((try simp only[okB,cT,go_sem,pG])<;>omega))))))
   ·have L:w=[]:=fM (by omega);subst L;have j:¬(0:Int)<(u.l.length:Int):=by omega
    apply bl;simp only[go_sem,j];refine wN ?_;simp only[go_sem];exact wF g
  |some i=>
   obtain⟨R,O⟩:=Q;dsimp only
   by_cases D:i<u.l.length
   ·have j:(i:Int)<(u.l.length:Int):=by omega
    have z0:(0:Int)<=(i:Int):=by omega
    have r:u.l[i]?=some u.l[i]:=aN D;have J:=p i D (by omega);have h:(w.take (i+1)).map aa.cs=(w.take i).map aa.cs++[(w[i]).cs]:=by
     rw[eW (by omega),dF];rfl
    have A:aE.wrap ((i:Int)+1)=((i+1:Nat):Int):=by rw[a7]<;>omega
    have M:(w.take i).length=i:=by rw[dE];omega
    have T:(i+1)*56<=140737488355328:=by omega
    have U:i+1<=140737488355328:=by omega
    generalize u.l[i]=x at*;generalize w[i]=y at*;rw[aa.aG]at h;apply bl;simp only[go_sem,j];refine wY ?_;simp only[go_sem,j,z0,r];apply W.aD (aF _ _)
    case hc=>
     (apply ab.aj;simp only[go_sem]);(apply ab.call (J _ (hG E _))<;>try rfl);(apply ab.aj;simp only[go_sem,M,T,U,true_or]);exact ab.nil
    apply bl;simp only[go_sem,A];refine .inv ⟨some (i+1),⟨by omega,D⟩,by dsimp only;omega,?_⟩;dsimp only
    rw[h];(refine aV.lJ (g) ?_ (by simp) (by simp) ?_ ?_ ?_;exact dZ;((try simp only[okB,cT,go_sem,pG])<;>omega);(simp only[bG,dU,iA,jW,ey,cT,and_true];(repeat' (refine mq ?_ ?_))<;>(first|exact ad.wk.rfl _|exact ad.wk.gone _|(refine ad.lL ?_ rfl;(exact aR))));(repeat' (first|exact cK.base _|(refine cK.put ?_ (by first|exact .c _|((try simp only[okB,cT,go_sem,pG])<;>omega))))))
   ·obtain rfl:i=u.l.length:=by omega
    have j:¬((u.l.length:Nat):Int)<((u.l.length:Nat):Int):=by omega
    have h:w.take u.l.length=w:=by rw[<-hw,jA]
    rw[h];apply bl;simp only[go_sem,j];refine wN ?_;simp only[go_sem];exact wF g
def qY{N:Nat}{s:List aa}(c:bO N s):∀x,ay s.length x->bJ s x=true->cq s x.n∈s/\ay s.length (cq s x.n):=fun x e g=>by
 obtain⟨h0,b,_⟩:=e.var (fk g);exact⟨iN h0 b,c.right.holds _ (iN h0 b)⟩
mutual
def Nw(w0:World){N:Nat}{s:List aa}(g:bO N s)(E:N<=1000000)(b:Nat):∀{t u:aa},lT s t u->ay s.length t->aw t<=N->∀(σ:H),σ[b]?=some (.vec 34 4 (aK s))->DC prog w0 133 [.vec b s.length,t.v] σ (Same u.v σ)
 |t,_,.var (n:=n) h hk,i,hn,σ,j=>(Nv w0 b σ j (fun c e=>z6 w0 s g.right.holds t _ n h i b c e)).1 hk
 |t,_,.gK (u:=u) (n:=n) (w:=w) h hk r,i,hn,σ,j=>by
  have F:=(oc g.right.holds h i).1;have A:=kX g.size h (qY g) i hn;have hl:=lj u.l;have p:∀x∈u.l,ay s.length x/\aw x<=N:=fun x D=>⟨F.dA hk D,by have:=jm D;rw[ct]at A;omega⟩;exact(Nv w0 b σ j (fun c e=>z6 w0 s g.right.holds t u n h i b c e)).2 hk w r.len (by rw[ct]at A;omega) (Nx w0 g E b r p)
def Nx(w0:World){N:Nat}{s:List aa}(j:bO N s)(p:N<=1000000)(b:Nat):∀{l w:List aa},fY s l w->(∀x∈l,ay s.length x/\aw x<=N)->∀i (e:i<l.length) (c:i<w.length) (σ:H),σ[b]?=some (.vec 34 4 (aK s))->DC prog w0 133 [.vec b s.length,l[i].v] σ (Same w[i].v σ)
 |_,_,.nil,_,i,e,_,_,_=>absurd e (Nat.not_lt_zero _)
 |_,_,.cons r rs,h,0,_,_,σ,g=>Nw w0 j p b r (h _ (aZ ..)).1 (h _ (aZ ..)).2 σ g
 |_,_,.cons r rs,h,i+1,e,c,σ,g=>Nx w0 j p b rs (fun x t=>h x (bH _ t)) i (mm e) (mm c) σ g
end
def Yt(w0:World){N:Nat}{s:List aa}(p:bO N s)(r:N<=1000000)(E:s.length<=1000000)(b:Nat){t u:aa}(h:lT s t u)(w:ay s.length t)(hn:aw t<=N)(σ:H)(A:σ[b]?=some (.vec 34 4 (aK s))):
  DC prog w0 79 [.vec b s.length,t.v] σ (Same u.v σ):=by
 have F:=fun g i=>Nw w0 p r b h w hn g i;have e:∀(τ:H),τ[b]?=some (.vec 34 4 (aK s))->DC prog w0 132 [.vec b s.length,.c (.sl [t.cs])] τ (Same (B true) τ):=fun τ h=>vJ w0 p r E [t] (fun x D=>by simp at D;subst D;exact⟨w,by omega⟩) τ b h;simp only[aa.aG]at e;refine Ns.go rfl (fun j G=>?_);apply bl;simp only[go_sem,Et];(refine W.fV (e _ (hG A _)) ?_;simp only[go_sem]);refine wN ?_;simp only[go_sem];(refine db (F _ (hG A _)) ?_;simp only[go_sem]);exact wF j
end
def qZ:AC:=rsq [oA 2 zS4] (rsq [.m 4 0,.n 5 4,.f 6 3 5,.l 7 6,oL 8 7,oD 9 zS4 [(0,1,(zK 1)),(2,1,8)],oA 3 zS4,.s 4 3 9] (.seq (drg [.m 10 0,.n 11 10,.f 12 3 11,.l 13 12,.d 14 4 3,oL 15 13,oS 16 4 [(.k (.agg zS4))],oQ 17 34 4 56 13 16,oJ 18 4 17 15,.s 4 18 14,.n 19 10,.f 20 3 19,.s 1 20 17] []) (rsq [.d 21 4 3,.s 4 2 21] .ret)))
abbrev re:List ak:=[.aW 4 2]
def Ez:aq prog 67 1 Tryz.f67 qZ re:=.auto func67
end Go.Proofs.YtdlkenpilhakfaaGreatDoor
namespace Go.Lamb
open Go Go.RowKit
def cO:List C:=[.int .i64 0,.str [],.int .i64 0,.sl []]
def jr(n:Nat):List C:=[.int .i64 1,.str [],.int .i64 n,.sl []]
def lU:List V:=[.c (.int .i64 0),.c (.str []),.c (.int .i64 0),.ae []]
def cL(n:Nat):List V:=[.c (.int .i64 1),.c (.str []),.c (.int .i64 n),.ae []]
def fo(e:Nat)(σ σ1:H)(b o:Nat)(cs:List V)(tg:Option TypeId)(n:Nat)(pre:List C)(a s c:Bool):H:=
 (bif c then σ1.set b (.cells (cs.take o++[.vec (σ.length+2) (n+1)]++cs.drop (o+1)) tg)else bif a then σ1 else σ)++(.cells lU none:: .cells (cL n) none::(bif a then[.vec e 4 (pre++bif s then jr n else cO)]else[]))
section
variable {P:Program} {w0:World} {l0:List ai} {S:(Nat->Bool)->H->Prop} {k:Nat} {o:ai} {ρ ρ':Env} {v:V}
def YG.pure(hg:bQ ρ o.guard=some true)(h:∀τ,step ρ τ o.ins=some (v,τ))(hS:∀L σ,S L σ->S (fi L k) σ):YG P w0 l0 S k o ρ v:=fun L _ _ _=>.step hg fun σ hσ=>⟨σ,h σ,hS L σ hσ⟩
end
end Go.Lamb
namespace Go.Proofs.YtdlkenpilhakfaaGreatDoor
open Go.RowKit Go.Lamb
section
section
variable {P:Program} {w0:World} {l0:List ai}
def Ny:List ai:=[.m 10 0,.n 11 10,.f 12 3 11,.l 13 12,.d 14 4 3,.o 15 (.eM (.t 13)),.o 16 (.o6 4 [(.k (.agg [.c (.int .i64 0),.c (.str []),.c (.int .i64 0),.ae []]))]),.o 17 (.app 34 4 56 (.t 13) (.t 16)),.o 18 (.dm 4 (.t 17) (.t 15)),.s 4 18 14,.n 19 10,.f 20 3 19,.s 1 20 17]
def Ak(ρ:Env)(b o N n:Nat)(y:V):Env:=(((((((((((((ρ.put (some 10) (.ptr b o)).put (some 11) (.ptr b o)).put (some 12) (.ptr b (o+3))).put (some 13) y).put (some 14) (.agg (cL n))).put (some 15) (.c (.int .i64 n))).put (some 16) (.ae [cO])).put (some 17) (.vec (N+2) (n+1))).put (some 18) (.ptr (N+2) (n*4))).put none .void).put (some 19) (.ptr b o)).put (some 20) (.ptr b (o+3))).put none .void)
def ng{L:Nat->Bool}(b:BQ l0 L)(k j:Nat)(hk:k<l0.length)(c:j∈qm l0 k)(h:L j=false):L k=false:=by
 cases e:L k with
 |false=>rfl
 |true=>rw[b k hk e j c]at h;cases h
def Nz{e:Nat}{σ σ1:H}{b o:Nat}{cs:List V}{tg:Option TypeId}{n:Nat}{pre:List C}{a s c:Bool}(g:σ1.length=σ.length):∃X,fo e σ σ1 b o cs tg n pre a s c=X++(.cells lU none:: .cells (cL n) none::(bif a then[.vec e 4 (pre++bif s then jr n else cO)]else[]))/\X.length=σ.length:=by
 refine⟨_,rfl,?_⟩;cases c<;>cases a<;>simp[g]
def NA(σ σ1:H)(b o n:Nat)(hn:n<=1000000)(cs:List V)(tg:Option TypeId)(R:σ[b]?=some (.cells cs tg))(M:σ1[b]?=some (.cells cs tg))(u:σ1.length=σ.length)(y:V)(T:cs[o+3]?=some y)(pre:List C)(E:pre.length=n*4)
  (G:∀(ρ:Env) (τ:H),ρ 13=y->Lamb.step ρ τ (.eM (.t 13))=some (.c (.int .i64 n),τ))
  (J:∀(ρ:Env) (o:ai),o.guard=none->o.ins= .app 34 4 56 (.t 13) (.t 16)->ρ 13=y->ρ 16= .ae [cO]->dt P w0 (fun x=>x=σ++[.cells lU none,.cells (cL n) none]) (fun x=>x=σ1++[.cells lU none,.cells (cL n) none,.vec 34 4 (pre++cO)]) o ρ (.vec (σ.length+2) (n+1)))
  (ρ:Env) (h0:ρ 0= .ptr b o) (U:ρ 3= .ptr (σ.length+1) 0):
  nM P w0 Ny (fun L x=>x=fo 34 σ σ1 b (o+3) cs tg n pre (L 7) (L 9) (L 12)) 0 Ny ρ (Ak ρ b o σ.length n y):=by
 have N:b<σ.length:=(aI.1 R).1;unfold Ak;have g:∀{ρ:Env} {d k:Nat} {v:V},k≠d->(ρ.put (some d) v) k=ρ k:=fun h=>by simp only[Env.put];rw[if_neg h]
 have p:∀{ρ:Env} {d:Nat} {v:V},(ρ.put (some d) v) d=v:=by intro ρ d v;simp[Env.put]
 have Y:∀{ρ:Env} {v:V},ρ.put none v=ρ:=fun{_ _}=>rfl;refine .cons (v:=.ptr b o) (YG.pure rfl (fun τ=>by simp only[Lamb.step,ah.ev,h0]) (fun L x h=>h)) ?_;refine .cons (v:=.ptr b o) (YG.pure rfl (fun τ=>by simp only[Lamb.step,ah.ev,p]) (fun L x h=>h)) ?_;refine .cons (v:=.ptr b (o+3)) (YG.pure rfl (fun τ=>by simp only[Lamb.step,ah.ev,p]) (fun L x h=>h)) ?_;refine .cons (v:=y) ?_ ?_
 ·intro L i hk j;have D:L 7=false:=ng i 7 3 (by decide) (by decide) hk;have w:L 12=false:=ng i 12 7 (by decide) (by decide) D;refine .step rfl fun x r=>⟨x,?_,r⟩;subst r;rw[D,w];have:(fo 34 σ σ1 b (o+3) cs tg n pre false (L 9) false)[b]?=some (.cells cs tg):=by
   unfold fo;simp only[cond_false];rw[cr N];exact R
  simp only[Lamb.step,ah.ev,p,je,this,T]
 refine .cons (v:=.agg (cL n)) ?_ ?_
 ·intro L i hk j;refine .step rfl fun x r=>⟨x,?_,r⟩;subst r;obtain⟨X,O,F⟩:=Nz (e:=34) (b:=b) (o:=o+3) (cs:=cs) (tg:=tg) (n:=n) (pre:=pre) (a:=L 7) (s:=L 9) (c:=L 12) u;have:(fo 34 σ σ1 b (o+3) cs tg n pre (L 7) (L 9) (L 12))[σ.length+1]?=some (.cells (cL n) none):=by
   rw[O,da (by omega),F,fu];rfl
  have Z:((((ρ.put (some 10) (.ptr b o)).put (some 11) (.ptr b o)).put (some 12) (.ptr b (o+3))).put (some 13) y) 3= .ptr (σ.length+1) 0:=by
   rw[g (by decide),g (by decide),g (by decide),g (by decide),U]
  simp only[Lamb.step,ah.ev,Z,je,this];rfl
 refine .cons (v:=.c (.int .i64 n)) (YG.pure rfl (fun τ=>G _ _ (by rw[g (by decide),p])) (fun L x h=>h)) ?_;refine .cons (v:=.ae [cO]) (YG.pure rfl (fun τ=>rfl) (fun L x h=>h)) ?_;refine .cons (v:=.vec (σ.length+2) (n+1)) ?_ ?_
 ·intro L i hk j;have Q:L 8=false:=ng i 8 7 (by decide) (by decide) hk;have h9:L 9=false:=ng i 9 8 (by decide) (by decide) Q;have w:L 12=false:=ng i 12 7 (by decide) (by decide) hk;have A:(fun x=>x=fo 34 σ σ1 b (o+3) cs tg n pre (L 7) (L 9) (L 12))=(fun x=>x=σ++[.cells lU none,.cells (cL n) none]):=by
   rw[hk,w];rfl
  have e2:(fun x=>x=fo 34 σ σ1 b (o+3) cs tg n pre (fi L 7 7) (fi L 7 9) (fi L 7 12))=(fun x=>x=σ1++[.cells lU none,.cells (cL n) none,.vec 34 4 (pre++cO)]):=by
   have a1:fi L 7 7=true:=rfl;have a2:fi L 7 9=L 9:=rfl;have a3:fi L 7 12=L 12:=rfl;rw[a1,a2,a3,h9,w];rfl
  show dt P w0 (fun x=>x=fo 34 σ σ1 b (o+3) cs tg n pre (L 7) (L 9) (L 12)) (fun x=>x=fo 34 σ σ1 b (o+3) cs tg n pre (fi L 7 7) (fi L 7 9) (fi L 7 12)) _ _ _;rw[A,e2];exact J _ _ rfl rfl (by rw[g (by decide),g (by decide),g (by decide),p]) p
 refine .cons (v:=.ptr (σ.length+2) (n*4)) (YG.pure rfl (fun τ=>?_) (fun L x h=>h)) ?_
 ·have A:(((((((((ρ.put (some 10) (.ptr b o)).put (some 11) (.ptr b o)).put (some 12) (.ptr b (o+3))).put (some 13) y).put (some 14) (.agg (cL n))).put (some 15) (.c (.int .i64 n))).put (some 16) (.ae [cO])).put (some 17) (.vec (σ.length+2) (n+1)))) 15= .c (.int .i64 n):=by rw[g (by decide),g (by decide),p]
  simp only[Lamb.step,ah.ev,A,p];rw[if_pos ⟨by omega,by omega⟩];rfl
 refine .cons (v:=.void) ?_ ?_
 ·intro L i hk j;have Q:L 8=true:=j 8 (by decide);have D:L 7=true:=i 8 (by decide) Q 7 (by decide);refine .step rfl fun x r=>⟨x.set (σ.length+2) (.vec 34 4 (pre++jr n)),?_,?_⟩
  ·subst r;obtain⟨X,O,F⟩:=Nz (e:=34) (b:=b) (o:=o+3) (cs:=cs) (tg:=tg) (n:=n) (pre:=pre) (a:=true) (s:=L 9) (c:=L 12) u;have:(fo 34 σ σ1 b (o+3) cs tg n pre true (L 9) (L 12))[σ.length+2]?=some (.vec 34 4 (pre++cO)):=by
    rw[O,da (by omega),F,fu,hk];rfl
   have A:((((((((((ρ.put (some 10) (.ptr b o)).put (some 11) (.ptr b o)).put (some 12) (.ptr b (o+3))).put (some 13) y).put (some 14) (.agg (cL n))).put (some 15) (.c (.int .i64 n))).put (some 16) (.ae [cO])).put (some 17) (.vec (σ.length+2) (n+1))).put (some 18) (.ptr (σ.length+2) (n*4)))) 14= .agg (cL n):=by rw[g (by decide),g (by decide),g (by decide),g (by decide),p]
   have t4:fx (cL n)=some (jr n):=rfl;have q1:(pre++cO).take (n*4)=pre:=by rw[<-E];exact List.take_left
   have q2:(pre++cO).drop (n*4+4)=[]:=by rw[List.drop_eq_nil_iff];simp[E,cO]
   rw[D];simp only[Lamb.step,ah.ev,A,p,this,V.af,t4];rw[if_pos ⟨rfl,by simp[E,cO]⟩,q1,q2,cd]
  ·subst r;show(fo 34 σ σ1 b (o+3) cs tg n pre (L 7) (L 9) (L 12)).set _ _=fo 34 σ σ1 b (o+3) cs tg n pre (L 7) true (L 12);rw[D,hk];unfold fo;rw[gX _ _ (by cases L 12<;>simp[u])];congr 1;have:σ.length+2-(bif L 12 then σ1.set b (.cells (cs.take (o+3)++[.vec (σ.length+2) (n+1)]++cs.drop (o+3+1)) tg)else bif true then σ1 else σ).length=2:=by cases L 12<;>simp[u]
   rw[this];rfl
 rw[Y];refine .cons (v:=.ptr b o) (YG.pure rfl (fun τ=>?_) (fun L x h=>h)) ?_
 ·have A:((((((((((ρ.put (some 10) (.ptr b o)).put (some 11) (.ptr b o)).put (some 12) (.ptr b (o+3))).put (some 13) y).put (some 14) (.agg (cL n))).put (some 15) (.c (.int .i64 n))).put (some 16) (.ae [cO])).put (some 17) (.vec (σ.length+2) (n+1))).put (some 18) (.ptr (σ.length+2) (n*4)))) 10= .ptr b o:=by rw[g (by decide),g (by decide),g (by decide),g (by decide),g (by decide),g (by decide),g (by decide),g (by decide),p]
  simp only[Lamb.step,ah.ev,A]
 refine .cons (v:=.ptr b (o+3)) (YG.pure rfl (fun τ=>by simp only[Lamb.step,ah.ev,p]) (fun L x h=>h)) ?_;refine .cons (v:=.void) ?_ .nil;intro L i hk j;have D:L 7=true:=j 7 (by decide);refine .step rfl fun x r=>⟨x.set b (.cells (cs.take (o+3)++[.vec (σ.length+2) (n+1)]++cs.drop (o+3+1)) tg),?_,?_⟩
 ·subst r;rw[D,hk];have:(fo 34 σ σ1 b (o+3) cs tg n pre true (L 9) false)[b]?=some (.cells cs tg):=by
   unfold fo;simp only[cond_false,cond_true];rw[cr (by omega)];exact M
  have A:((((((((((((ρ.put (some 10) (.ptr b o)).put (some 11) (.ptr b o)).put (some 12) (.ptr b (o+3))).put (some 13) y).put (some 14) (.agg (cL n))).put (some 15) (.c (.int .i64 n))).put (some 16) (.ae [cO])).put (some 17) (.vec (σ.length+2) (n+1))).put (some 18) (.ptr (σ.length+2) (n*4))).put (some 19) (.ptr b o)).put (some 20) (.ptr b (o+3)))) 17= .vec (σ.length+2) (n+1):=by rw[g (by decide),g (by decide),g (by decide),p]
  have ho:o+3<cs.length:=(aI.1 T).1;simp only[Lamb.step,ah.ev,A,p,this,V.af];rw[if_pos ⟨rfl,by omega,rfl⟩]
 ·subst r;show(fo 34 σ σ1 b (o+3) cs tg n pre (L 7) (L 9) (L 12)).set _ _=fo 34 σ σ1 b (o+3) cs tg n pre (L 7) (L 9) true;rw[D,hk];unfold fo;simp only[cond_false,cond_true];rw[List.set_append_left _ _ (by omega)]
end
section
variable {w0:World}
def Al{F:FuncId}{fn:Func}(K:aq prog F 1 fn qZ re)(σ σ1:H)(b o n:Nat)(hn:n<=1000000)(cs:List V)(tg:Option TypeId)(r:σ[b]?=some (.cells cs tg))(y:V)(A:cs[o+3]?=some y)(pre:List C)
  (c:(y= .ae []/\n=0/\pre=[]/\σ1=σ)\/(∃e cells,y= .vec e n/\σ[e]?=some (.vec 34 4 cells)/\n*4<=cells.length/\pre=cells.take (n*4)/\σ1=σ.set e .gone)):
  DC prog w0 F [.ptr b o] σ (fun d O=>d= .agg (cL n)/\O=σ1.set b (.cells (cs.take (o+3)++[.vec (σ.length+2) (n+1)]++cs.drop (o+3+1)) tg)++[.cells (cL n) none,.cells (cL n) none,.vec 34 4 (pre++jr n)]):=by
 have P:b<σ.length:=(aI.1 r).1;have ho:o+3<cs.length:=(aI.1 A).1;have Q:σ1.length=σ.length:=by rcases c with⟨_,_,_,rfl⟩|⟨e,cells,_,_,_,_,rfl⟩<;>simp
 have R:σ1[b]?=some (.cells cs tg):=by
  rcases c with⟨_,_,_,rfl⟩|⟨e,cells,_,h,_,_,rfl⟩
  ·exact r
  ·rw[bA]
   ·exact r
   ·rintro rfl;rw[r]at h;cases h
 have ha:∀L,(σ++L)[b]?=some (.cells cs tg):=fun L=>by rw[cr P];exact r
 have D:∀x L,(σ++x::L)[σ.length]?=some x:=fun x L=>by rw[da (aA _),cw];rfl
 have E:∀L k,(σ++L)[σ.length+k]?=L[k]?:=fun L k=>by rw[da (by omega),fu]
 have G:∀L k x,(σ++L).set (σ.length+k) x=σ++L.set k x:=fun L k x=>by rw[gX _ _ (by omega),fu]
 have J:∀L x,(σ++L).set σ.length x=σ++L.set 0 x:=fun L x=>by rw[gX _ _ (aA _),cw]
 refine DC.IU K.hm K.hf K.hb K.ag K.dI K.hn K.en ?_;rcases c with⟨rfl,rfl,rfl,rfl⟩|⟨e,cells,rfl,hv,T,rfl,rfl⟩
 ·apply bl;simp only[go_sem,qZ,ha,D,E,J,G,A];refine W.ux (fun L x=>x=fo 34 σ1 σ1 b (o+3) cs tg 0 [] (L 7) (L 9) (L 12)) rfl (NA σ1 σ1 b o 0 hn cs tg r r rfl _ A [] rfl (fun ρ τ h=>by simp only[Lamb.step,ah.ev,h];rfl) (fun ρ o hg U Y Z=>?_) _ rfl rfl) ?_
  ·refine dt.vec (olds:=[]) (news:=[cO]) (by rw[hg];rfl) U Y (by show(ρ 16).rows=_;rw[Z];rfl) ⟨by simp,by simp,by simp[cO],by simp,by simp⟩ (fun x p=>?_);subst p;exact⟨by simp,by simp⟩
  ·intro L t x p;rw[t 7 (by decide),t 9 (by decide),t 12 (by decide)]at p;subst p;have u:(fo 34 σ1 σ1 b (o+3) cs tg 0 [] true true true)=σ1.set b (.cells (cs.take (o+3)++[.vec (σ1.length+2) (0+1)]++cs.drop (o+3+1)) tg)++[.cells lU none,.cells (cL 0) none,.vec 34 4 ([]++jr 0)]:=rfl;rw[u];generalize M:σ1.set b (.cells (cs.take (o+3)++[.vec (σ1.length+2) (0+1)]++cs.drop (o+3+1)) tg)=X;have g:X.length=σ1.length:=by rw[<-M];simp
   rw[<-g];have i:∀x L,(X++x::L)[X.length]?=some x:=fun x L=>by rw[da (aA _),cw];rfl
   have j:∀L k,(X++L)[X.length+k]?=L[k]?:=fun L k=>by rw[da (by omega),fu]
   have w:∀L x,(X++L).set X.length x=X++L.set 0 x:=fun L x=>by rw[gX _ _ (aA _),cw]
   apply bl;simp only[go_sem,Ak,cL,lU,i,j,w];refine W.ret ⟨_,aV.refl _ _,[.agg (cL 0)],?_,.inl ⟨rfl,?_⟩⟩
   ·simp only[go_sem,re,aX,i,j,cL]
   ·rw[g,<-M];simp only[dq,aef]
 ·apply bl;simp only[go_sem,qZ,ha,D,E,J,G,A];have N:e<σ.length:=(aI.1 hv).1;refine W.ux (fun L x=>x=fo 34 σ (σ.set e .gone) b (o+3) cs tg n (cells.take (n*4)) (L 7) (L 9) (L 12)) rfl (NA σ (σ.set e .gone) b o n hn cs tg r R Q _ A (cells.take (n*4)) (by rw[dE];omega) (fun ρ τ h=>by simp only[Lamb.step,ah.ev,h]) (fun ρ o hg U Y Z=>?_) _ rfl rfl) ?_
  ·refine dt.step (by rw[hg];rfl) (fun x p=>?_);subst p;have hv':(σ++[.cells lU none,.cells (cL n) none])[e]?=some (.vec 34 4 cells):=by rw[cr N];exact hv
   rw[U];have h3:(V.ae [cO]).rows=some [cO]:=rfl;have e1:n*4+4=n*4+[cO].flatten.length:=rfl;refine⟨_,?_,rfl⟩;simp only[Lamb.step,ah.ev,Y,Z,h3,mA,hv'];rw[if_pos ⟨trivial,trivial,T,by simp,by simp[cO],by simp;omega,by simp;omega⟩];simp[List.set_append,N]
  ·intro L t x p;rw[t 7 (by decide),t 9 (by decide),t 12 (by decide)]at p;subst p;have u:(fo 34 σ (σ.set e .gone) b (o+3) cs tg n (cells.take (n*4)) true true true)=(σ.set e .gone).set b (.cells (cs.take (o+3)++[.vec (σ.length+2) (n+1)]++cs.drop (o+3+1)) tg)++[.cells lU none,.cells (cL n) none,.vec 34 4 (cells.take (n*4)++jr n)]:=rfl;rw[u];generalize M:(σ.set e .gone).set b (.cells (cs.take (o+3)++[.vec (σ.length+2) (n+1)]++cs.drop (o+3+1)) tg)=X;have g:X.length=σ.length:=by rw[<-M];simp
   rw[<-g];have i:∀x L,(X++x::L)[X.length]?=some x:=fun x L=>by rw[da (aA _),cw];rfl
   have j:∀L k,(X++L)[X.length+k]?=L[k]?:=fun L k=>by rw[da (by omega),fu]
   have w:∀L x,(X++L).set X.length x=X++L.set 0 x:=fun L x=>by rw[gX _ _ (aA _),cw]
   apply bl;simp only[go_sem,Ak,cL,lU,i,j,w];refine W.ret ⟨_,aV.refl _ _,[.agg (cL n)],?_,.inl ⟨rfl,?_⟩⟩
   ·simp only[go_sem,re,aX,i,j,cL]
   ·rw[g,<-M];simp only[dq,aef]
end
def EA(s:List aa)(t:aa):aK (s++[t])=aK s++t.cs:=by simp[aK]
def Yu{F:FuncId}{fn:Func}(K:aq prog F 1 fn qZ re)(w0:World){s:List aa}(i:s.length<=1000000)(p bs:Nat)(σ:H)(g1 b g3 y4 y5 e g:V)(tg:Option TypeId)(hp:σ[p]?=some (.cells [g1,b,g3,.vec bs s.length,y4,y5,e,g] tg))(r:σ[bs]?=some (.vec 34 4 (aK s))):
  DC prog w0 F [.ptr p 0] σ (Same (aJ s.length).v ((σ.set bs .gone).set p (.cells [g1,b,g3,.vec σ.length (s.length+1),y4,y5,e,g] tg)++[.vec 34 4 (aK (s++[aJ s.length]))])):=by
 refine DC.Dk (A:=[g1,b,g3]) (B:=[y4,y5,e,g]) (y:=.vec bs s.length) hp (by rw[aa.v];exact .agg fun x h=>by simp at h;rcases h with rfl|rfl|rfl|rfl<;>exact .c _) ?_;refine(Al K σ (σ.set bs .gone) p 0 s.length i _ tg hp (.vec bs s.length) rfl (aK s) (.inr ⟨bs,aK s,rfl,r,oZ (gC s).symm,by rw[<-gC s,jA],rfl⟩)).mono ?_;rintro d τ ⟨rfl,rfl⟩;refine⟨?_,[.cells (cL s.length) none,.cells (cL s.length) none],[],?_⟩
 ·exact .agg rfl fun j t u=>by
   rcases(by simp[cL]at t;omega:j=0\/j=1\/j=2\/j=3)with rfl|rfl|rfl|rfl
   ·exact .rfl _
   ·exact .rfl _
   ·exact .rfl _
   ·first|exact .ae _|exact .rfl _
 ·rw[EA];rfl
def Yv{F:FuncId}{fn:Func}(K:aq prog F 1 fn qZ re)(w0:World)(p:Nat)(σ:H)(g1 b g3 y4 y5 g h:V)(tg:Option TypeId)(hp:σ[p]?=some (.cells [g1,b,g3,.ae [],y4,y5,g,h] tg)):
  DC prog w0 F [.ptr p 0] σ (Same (aJ 0).v (σ.set p (.cells [g1,b,g3,.vec σ.length 1,y4,y5,g,h] tg)++[.vec 34 4 (aK [aJ 0])])):=by
 have h0:σ.set σ.length .gone=σ:=by rw[List.set_eq_of_length_le (aA _)]
 have key:=DC.Dk (P:=prog) (w0:=w0) (f:=F) (args:=[.ptr p 0]) (e:=34) (size:=4) (k:=1) (cs:=aK [aJ 0]) (b0:=σ.length) (A:=[g1,b,g3]) (B:=[y4,y5,g,h]) (y:=.ae []) (d:=(aJ 0).v) hp (by rw[aa.v];exact .agg fun x i=>by simp at i;rcases i with rfl|rfl|rfl|rfl<;>exact .c _) ?_
 ·rw[h0]at key;exact key
 rw[h0];refine(Al K σ σ p 0 0 (be _) _ tg hp (.ae []) rfl [] (.inl ⟨rfl,rfl,rfl,rfl⟩)).mono ?_;rintro d τ ⟨rfl,rfl⟩;refine⟨?_,[.cells (cL 0) none,.cells (cL 0) none],[],rfl⟩;exact .agg rfl fun j r t=>by
  rcases(by simp[cL]at r;omega:j=0\/j=1\/j=2\/j=3)with rfl|rfl|rfl|rfl
  ·exact .rfl _
  ·exact .rfl _
  ·exact .rfl _
  ·first|exact .ae _|exact .rfl _
attribute [local go_sem] aa.v aa.aG aO aQ aL aH aM
def Yw(w0:World){N:Nat}{s:List aa}(G:bO N s)(u:1<=N)(J:N<=1000000)(M:s.length<=1000000)(w:s≠[]){a b:aa}(ha:ay s.length a)(O:aw a<=N)(P:ay s.length b)(Q:aw b<=N){s':List aa}(h:ee 4096 s [(a,b)] 0 s')(p bs:Nat)(σ:H)(g1 j g3 y4 y5 r t:V)(tg:Option TypeId)(hp:σ[p]?=some (.cells [g1,j,g3,.vec bs s.length,y4,y5,r,t] tg))(g:σ[bs]?=some (.vec 34 4 (aK s))):
  DC prog w0 26 [.ptr p 0,a.v,b.v] σ (Same (B true) ((σ.set bs .gone).set p (.cells [g1,j,g3,.vec σ.length s.length,y4,y5,r,t] tg)++[.vec 34 4 (aK s')])):=by
 have R:=(aI.1 hp).1;have T:=(aI.1 g).1;have U:p≠bs:=fun e=>by rw[e,g]at hp;cases hp
 have D:=fun L=>hG hp L;have i:(σ.set bs .gone)[p]?=some (.cells [g1,j,g3,.vec bs s.length,y4,y5,r,t] tg):=by rw[bA (by omega)];exact hp
 have E:=fun L=>hG i L;have F:=fun y L=>hS i y L;have X:∀c d:ad,DC prog w0 71 [.vec bs s.length,a.v,b.v] (σ++[c,d]) (Same (.au [.vec (σ.length+2) s.length,I 0]) (σ.set bs .gone++[c,d,.vec 34 4 (aK s')])):=fun c d=>by
  have:=Yp w0 G u J M w ha O P Q h bs (σ++[c,d]) (hG g _);rw[hS g,dq,bC]at this;exact this
 refine DC.Dk (A:=[g1,j,g3]) (B:=[y4,y5,r,t]) (y:=.vec bs s.length) hp (.c _) ?_;refine Ab.cl rfl (fun Y Z=>?_);apply bl;simp only[go_sem,vP];apply W.aD (aF _ _)
 case hc=>
  (apply ab.aj;simp only[go_sem,D]);(apply ab.call (X _ _)<;>try rfl);(apply ab.aj;simp only[go_sem]);exact ab.nil
 apply bl;simp only[go_sem,E,F];exact W.ret ⟨_,_,(by simp only[aX,vQ,go_sem];rfl),.rfl _,⟨.rfl _,[_,_],[],rfl⟩⟩
def Yx(w0:World){N:Nat}{s:List aa}(O:bO N s)(r:1<=N)(P:N<=1000000)(Q:s.length<=1000000)(t:s≠[]){a b:aa}(ha:ay s.length a)(R:aw a<=N)(T:ay s.length b)(U:aw b<=N){e:Int}{s':List aa}(h:ee 4096 s [(a,b)] e s')(M:e≠0)(p bs:Nat)(σ:H)(g1 u g3 y4 y5 w A:V)(tg:Option TypeId)(hp:σ[p]?=some (.cells [g1,u,g3,.vec bs s.length,y4,y5,w,A] tg))(g:σ[bs]?=some (.vec 34 4 (aK s))):
  DC prog w0 26 [.ptr p 0,a.v,b.v] σ (Same (B false) (σ.set bs .gone)):=by
 have X:=(aI.1 hp).1;have Y:=(aI.1 g).1;have Z:p≠bs:=fun e=>by rw[e,g]at hp;cases hp
 have D:=fun L=>hG hp L;have i:(σ.set bs .gone)[p]?=some (.cells [g1,u,g3,.vec bs s.length,y4,y5,w,A] tg):=by rw[bA (by omega)];exact hp
 have E:=fun L=>hG i L;have F:=fun y L=>hS i y L;have hU:∀c d:ad,DC prog w0 71 [.vec bs s.length,a.v,b.v] (σ++[c,d]) (Same (.au [.vec bs s.length,I e]) (σ.set bs .gone++[c,d])):=fun c d=>by
  have:=Yq w0 O r P Q t ha R T U h M bs (σ++[c,d]) (hG g _);rwa [hS g]at this
 have G:(e==0)=false:=by simp[M]
 have cR:(σ.set bs .gone).set p (.cells [g1,u,g3,.vec bs s.length,y4,y5,w,A] tg)=σ.set bs .gone:=qp i;refine Ab.go rfl (fun J hsz=>?_);have j:H.ok (σ.set bs .gone):=Ey J bs;apply bl;simp only[go_sem,vP];apply W.aD (aF _ _)
 case hc=>
  (apply ab.aj;simp only[go_sem,D]);(apply ab.call (hU _ _)<;>try rfl);(apply ab.aj;simp only[go_sem]);exact ab.nil
 apply bl;simp only[go_sem,E,F,G,cR];refine W.ret (Fin.lK (vs:=[B false]) j (bz ..) (by simp only[aX,vQ,go_sem]) (.rfl _) (.c _) rfl)
def Yy(w0:World){N:Nat}(F:N<=1000000){a b:aa}(ha:ay 0 a)(G:aw a<=N)(J:ay 0 b)(M:aw b<=N){e:Int}(h:ee 4096 [] [(a,b)] e [])(p:Nat)(σ:H)(g1 r g3 y4 y5 u w:V)(tg:Option TypeId)(hp:σ[p]?=some (.cells [g1,r,g3,.ae [],y4,y5,u,w] tg)):
  DC prog w0 26 [.ptr p 0,a.v,b.v] σ (Same (B (e==0)) (σ.set p (.cells [g1,r,g3,.c (.sl []),y4,y5,u,w] tg))):=by
 have O:=(aI.1 hp).1;have g:=fun L=>hG hp L;have A:=fun y L=>hS hp y L;have P:=fun σ=>Yr w0 F ha G J M h σ;refine Ab.go rfl (fun i Q=>?_);have j:H.ok (σ.set p (.cells [g1,r,g3,.c (.sl []),y4,y5,u,w] tg)):=fun B D cs t hc x E=>by
  rw[bz];rcases mr D with D|rfl
  ·exact i B D cs t hc x E
  ·cases hc;have hl:=i _ (List.mem_of_getElem? hp) _ _ rfl;simp at E;rcases E with rfl|rfl|rfl|rfl|rfl|rfl|rfl|rfl
   ·exact hl _ (by simp)
   ·exact hl _ (by simp)
   ·exact hl _ (by simp)
   ·exact .c _
   ·exact hl _ (by simp)
   ·exact hl _ (by simp)
   ·exact hl _ (by simp)
   ·exact hl _ (by simp)
 apply bl;simp only[go_sem,vP];apply W.aD (aF _ _)
 case hc=>
  (apply ab.aj;simp only[go_sem,g]);(apply ab.call (P _)<;>try rfl);(apply ab.aj;simp only[go_sem]);exact ab.nil
 apply bl;simp only[go_sem,g,A];refine W.ret (Fin.lK (vs:=[B (e==0)]) j (bz ..) (by simp only[aX,vQ,go_sem]) (.rfl _) (.c _) rfl)
end
end Go.Proofs.YtdlkenpilhakfaaGreatDoor
namespace Go.Lamb
open Go Go.RowKit
def lV(l:List av):List (List C):=l.map fun x=>x.ty.cs
end Go.Lamb
namespace Go.Proofs.YtdlkenpilhakfaaGreatDoor
open Go.RowKit Go.Lamb
section
attribute [local go_sem] aa.v aa.aG aO aQ aL aH aM
def Yz(w0:World)(l:List av)(hn:l.length<=1000000)(σ:H):DC prog w0 32 [.c (.sl (l.map av.cs))] σ (Same (.c (.sl (lV l))) σ):=by
 refine Ni.go rfl (fun b w=>?_);apply bl;simp only[go_sem,En];refine W.aY (α:=Option Nat) (fun o=>match o with|none=>True|some i=>1<=i/\i<=l.length) (fun o=>match o with
  |none=>⟨((((base.put (some 3) (.ae [])).put (some 6) (.c (.sl (l.map av.cs)))).put (some 7) (I (l.length:Int))).put (some 8) (I 0)),σ⟩
  |some i=>⟨((((base.put (some 3) (.aC (σ.length+1) (lV (l.take i)))).put (some 6) (.c (.sl (l.map av.cs)))).put (some 7) (I (l.length:Int))).put (some 8) (I (i:Int))),σ++[.gone,.spare 34 4 i]⟩) (fun o=>match o with|none=>l.length+1|some i=>l.length-i) none trivial ?_ (fun o A=>?_)
 ·dsimp only
  exact wV
 cases o with
 |none=>
  dsimp only
  by_cases h0:0<l.length
  ·have e:(0:Int)<(l.length:Int):=by omega
   have h:l[0]?=some l[0]:=aN h0;have g:l.take 1=[l[0]]:=by
    cases l with
    |nil=>simp at h0
    |cons x l=>rfl
   have j:aE.wrap (0+1)=((1:Nat):Int):=by decide
   generalize l[0]=x at*;obtain⟨D,ty⟩:=x;apply bl;simp only[go_sem,e];refine wY ?_;simp only[go_sem,e,h,av.cs,j,true_or];refine .inv ⟨some 1,⟨aA _,h0⟩,by dsimp only;omega,?_⟩;dsimp only
   rw[g];simp only[lV,ck,cP,aa.aG];exact wQ b
  ·have t:l=[]:=fM (by omega);subst t;have e:¬(0:Int)<0:=by decide
   apply bl;simp only[go_sem,e];refine wN ?_;simp only[go_sem];refine W.ret (Fin.lK (vs:=[.ae []]) b rfl (by simp only[aX,Eo,go_sem]) (.ae _) (.c _) (cd _).symm)
 |some i=>
  obtain⟨E,M⟩:=A;dsimp only
  by_cases p:i<l.length
  ·have e:(i:Int)<(l.length:Int):=by omega
   have z0:(0:Int)<=(i:Int):=by omega
   have h:l[i]?=some l[i]:=aN p;have g:lV (l.take (i+1))=lV (l.take i)++[(l[i]).ty.cs]:=by
    unfold lV;rw[eW p,dF];rfl
   have j:aE.wrap ((i:Int)+1)=((i+1:Nat):Int):=by rw[a7]<;>omega
   have u:(lV (l.take i)).length=i:=by unfold lV;rw[bY,dE];omega
   have F:(i+1)*56<=140737488355328:=by omega
   have G:i+1<=140737488355328:=by omega
   have J:(∀r∈lV (l.take i),r.length=4)=True:=eq_true (fun r L=>by
    obtain⟨x,_,rfl⟩:=eU.1 L;rw[aa.aG];rfl)
   generalize l[i]=x at*;obtain⟨D,ty⟩:=x;rw[aa.aG]at g;apply bl;simp only[go_sem,e];refine wY ?_;simp only[go_sem,e,z0,h,av.cs,j,u,F,G,true_or];refine .inv ⟨some (i+1),⟨by omega,p⟩,by dsimp only;omega,?_⟩;dsimp only
   rw[g];exact wQ b
  ·obtain rfl:i=l.length:=by omega
   have e:¬((l.length:Nat):Int)<((l.length:Nat):Int):=by omega
   rw[jA];apply bl;simp only[go_sem,e];refine wN ?_;simp only[go_sem];exact wF b
end
end Go.Proofs.YtdlkenpilhakfaaGreatDoor
namespace Go.Lamb
open Go Go.RowKit
def cZ(name:cb):Nat->List av->Int
 |_,[]=>-1
 |i,x::l=>match cZ name (i+1) l with
  | .ofNat n=>.ofNat n
  | .negSucc _=>bif x.name==name then(i:Int)else-1
def vW(name:cb):∀(l:List av) (i:Nat),(∀x∈l,(x.name==name)=false)->cZ name i l=-1
 |[],_,_=>rfl
 |x::l,i,h=>by
  unfold cZ;rw[vW name l (i+1) fun y b=>h y (bH _ b)];show(bif x.name==name then(i:Int)else-1)=-1;rw[h x (aZ ..)];rfl
def Am(name:cb):∀(l:List av) (i j:Nat) (g:j<l.length),(l[j].name==name)=true->(∀k,j<k->∀hk:k<l.length,(l[k].name==name)=false)->cZ name i l=((i+j:Nat):Int)
 |x::l,i,0,_,b,c=>by
  unfold cZ;rw[vW name l (i+1) fun y h=>by obtain⟨k,hk,rfl⟩:=List.getElem_of_mem h;exact c (k+1) (by omega) (by simpa using hk)];show(bif x.name==name then(i:Int)else-1)=_;rw[show(x.name==name)=true from b];rfl
 |x::l,i,j+1,g,b,c=>by
  unfold cZ;rw[Am name l (i+1) j (by simpa using g) b fun k hk e=>c (k+1) (by omega) (by simpa using e)];show((i+1+j:Nat):Int)=_;congr 1;omega
end Go.Lamb
namespace Go.Proofs.YtdlkenpilhakfaaGreatDoor
open Go.RowKit Go.Shelf Go.Lamb
section
attribute [local go_sem] Oper.semAt_some
def An(xs:Nat->Value)(i:Nat):Value:=.agg #[xs (i*5),xs (i*5+1),xs (i*5+2),xs (i*5+3),xs (i*5+4)]
set_option maxRecDepth 100000 in
set_option maxHeartbeats 2000000 in
def YA(F:Fence)(n:Nat)(hf:F.fn 226)(N:F.round=none)(hn:1<=n)(l L c b off len cap:Nat)(A:Option Addr)(Z:0<len->A=some ⟨b,off,none⟩)(xs:Nat->Value)(M:len<=1000000)(hb:0<len->b<c)(J U:List (Fin len)->World->Prop)
  (hY:∀pre (x:Fin len) W,J pre W->pre.length<len->YieldAt F (n-1) prog l #[.int .i64 (x.1:Nat),An xs x.1] W fun e w=>
    (e= .returned (.bool true)/\J (pre++[x]) w/\fE c L W w)\/(e= .returned (.bool false)/\U (pre++[x]) w))
  (W:World) (O:W.cell? ⟨L,0,none⟩=some (.slice A len cap)) (hc:∀j,j<len*5->W.cell? ⟨b,off+j,none⟩=some (xs j)) (h0:J [] W):
  CallsIn F n prog 226 #[.func (.yield l) #[] #[],.pointer (some ⟨L,0,none⟩)] W fun e w=>(∃v,e= .returned v)/\
   ((∃ys,ys.map jB=gN len len/\J ys w)\/(∃pre,(∃k,k<len/\pre.map jB=gN len (k+1))/\U pre w)):=by
 have P:aE.wrap ((len:Int)-1)=(len:Int)-1:=a7 (by omega) (by omega);refine callsIn_of_wp func226 rfl hf ?_ N;simp only[ntmps226,pZ,bG,dU,iA,tZ,xn,xp,xq,xr,dK,iB]
 gi_wp2
 gi_loopw [3] (fun i wr=>∃(k:Nat) (pre:List (Fin len)),k<=len/\i= .int .i64 ((len:Int)-1-k)/\pre.map jB=gN len k/\J pre wr/\fE c L W wr)
  (fun i _=>(intOf i+1).toNat)
 case atStart=>exact⟨0,[],be _,by simp[P],rfl,h0,fE.refl _ _ _⟩
 case round=>
  obtain⟨k,pre,hk,rfl,g,D,u⟩:=hrel;have hBx:=u.2 _ O;by_cases E:k<len
  ·have r:∀j,j<len*5->wr.cell? ⟨b,off+j,none⟩=some (xs j):=fun j h=>(u.1.cell (p:=⟨b,off+j,none⟩) (hb (by omega))).trans (hc j h);obtain⟨m,X,Q⟩:∃m,m<len/\len-1-k=m:=⟨_,by omega,rfl⟩;obtain⟨fn,tmps,assign,body,Y,hR⟩:=hY _ ⟨m,X⟩ wr D (by rw[<-bY (f:=jB),g,NB];exact E);have e:(len:Int)-1-k=(m:Int):=by omega
   have t:(pre++[(⟨m,X⟩:Fin len)]).map jB=gN len (k+1):=by rw[dF,g,Ao,Q];rfl
   obtain rfl:=Z (by omega);rw[e];have c0:=r (m*5) (by omega);have c1:=r (m*5+1) (by omega);have c2:=r (m*5+2) (by omega);have c3:=r (m*5+3) (by omega);have c4:=r (m*5+4) (by omega);rw[<-Nat.add_assoc]at c1 c2 c3 c4;unfold An at Y;dsimp only at Y
   gi_wp2
   refine hR.mono ?_;rintro e W3 (⟨rfl,R,T⟩|⟨rfl,G⟩)
   ·gi_wp2
    go_roundw
    case rel=>exact⟨k+1,_,by omega,by simp only[Value.int.injEq,true_and];omega,t,R,u.trans T⟩
    case measure=>simp[intOf]
   ·gi_wp2
    refine bodyPost_ret (results_none rfl _ _ _) rfl ?_;exact⟨⟨_,rfl⟩,.inr ⟨_,⟨k,E,t⟩,G⟩⟩
  ·obtain rfl:k=len:=by omega
   have e:(k:Int)-1-k=-1:=by omega
   rw[e]
   gi_wp2
   go_end0
   exact⟨⟨_,rfl⟩,.inl ⟨_,g,D⟩⟩
set_option maxHeartbeats 1000000 in
def YB(F:Fence)(n:Nat)(hf:F.fn 179)(b:F.round=none)(a:Option Addr)(len cap:Nat)(w:World):
  CallsIn F n prog 179 #[.slice a len cap] w fun e w'=>e= .returned (.func (.func 226) #[] #[.pointer (some ⟨w.heap.size,0,none⟩)])/\w'=w.alloc (.cells #[.slice a len cap] 23):=by
 refine callsIn_of_wp func179 rfl hf ?_ b;simp only[ntmps179,pZ,bG,dU,iA,tZ,xn,xp,xq,xr,dK,iB]
 gi_wp2
 go_ret
 exact⟨rfl,rfl⟩
def YC(F:Fence)(n:Nat)(hf:F.fn 226)(h:F.round=none)(hn:1<=n)(g c b off len cap:Nat)(A:Option Addr)(E:0<len->A=some ⟨b,off,none⟩)(xs:Nat->Value)(e:len<=1000000)(u:0<len->b<c)(w:World)(i:g<w.heap.size)(r:c<=w.heap.size)
  (t:w.cell? ⟨g,0,none⟩=some (.slice A len cap)) (hc:∀j,j<len*5->w.cell? ⟨b,off+j,none⟩=some (xs j)):
  SeqStopsK F n prog 226 #[.pointer (some ⟨g,0,none⟩)] (fun x:Fin len=>#[.int .i64 (x.1:Nat),An xs x.1]) (fE c g) (fun ys=>ys.map jB=gN len len) (fun pre=>∃k,k<len/\pre.map jB=gN len (k+1)) len w:=fun l J G W D _ _ L h0=>by
 refine YA F n hf h hn l g c b off len cap A E xs e u J G L W ((D.cell (p:=⟨g,0,none⟩) i).trans t) (fun j M=>?_) h0;have N:=u (by omega);exact(D.cell (p:=⟨b,off+j,none⟩) (by show b<_;omega)).trans (hc j M)
def YD{m:Mem}{l:List av}{A:Option Addr}{len cap:Nat}(h:RC m (fy l) (.slice A len cap)):len=l.length/\∃xs:Nat->Value,(0<len->∃b o,A=some ⟨b,o,none⟩/\∀k,k<len*5->m b (o+k)=some (xs k))/\
  ∀i (p:i<l.length),xs (i*5)= .string (bs l[i].name)/\(xs (i*5+1)).oneCell'=true/\(xs (i*5+2)).oneCell'=true/\(xs (i*5+3)).oneCell'=true/\(xs (i*5+4)).oneCell'=true:=by
 unfold fy at h;generalize E:l.map av.cs=rows at h;cases h with
 |sl rows s A cap xs h0 Q R F G J=>
  subst E;refine⟨by simp,fun k=>xs.getD k undef,fun hl=>?_,fun i p=>?_⟩
  ·have j:l.map av.cs≠[]:=fun e=>by rw[e]at hl;simp at hl
   obtain⟨b,o,rfl,L⟩:=G j;have t:s=5:=by
    cases l with
    |nil=>simp at j
    |cons a r=>exact(h0 a.cs (by simp)).symm
   subst t;refine⟨b,o,rfl,fun k hk=>?_⟩;have g:k<xs.length:=by rw[F];exact hk
   rw[L k g,aN g];simp[List.getD,g]
  ·have t:s=5:=(h0 l[i].cs (List.mem_map_of_mem (bg p))).symm;subst t;have w:i<(l.map av.cs).length:=by simpa using p
   have c:=J i w;simp only[eI,av.cs]at c;have D:=c 0 (by simp);have M:=c 1 (by simp);have N:=c 2 (by simp);have O:=c 3 (by simp);have P:=c 4 (by simp);refine⟨?_,M.one,N.one,O.one,P.one⟩;simp only[List.getElem_cons_zero,nC]at D;show xs.getD (i*5) undef=_;generalize xs.getD (i*5) undef=u at D;cases D;rfl
end
end Go.Proofs.YtdlkenpilhakfaaGreatDoor
namespace Go.Lamb
open Go Go.RowKit
def YE{P:Program}{id r m:Nat}{Q:Exit->Act->World->Prop}{a:Act}{w:World}{l:List Oper}(i:P.follows .mixedOrders=true)(b:Region.lexB .any l.toArray=true)(hp:(l.toArray.all fun o=>Op.plain o.op)=true)(c:¬LetsOut Q)
  (h:wpQuiet P l.toArray (fun w'=>∃n,w'=w.drewN n) (fun e=>∀w',(∃n,w'=w.drewN n)->Q .normal e w') l a):(Code.region id l.toArray true).wpIn (qN r) m P Q a w:=by
 simp only[Region.lexB,bM]at b;refine wpIn_region_any i (Jj c (fun o j=>by rw[Array.all_eq_true']at hp;exact hp o j) (wpAny_of_quiet (C:=fun w'=>∃n,w'=w.drewN n) (Q:=fun e=>∀w',(∃n,w'=w.drewN n)->Q .normal e w') (fun _ w' g h=>h w' g) _ _ _ _ ⟨1,rfl⟩ ?_));have:=wpAnyQ_lex (C:=fun w'=>∃n,w'=w.drewN n) (md:=.any) b.1 l 0 (Array.replicate l.toArray.size false) a (by simp) (by simpa using b.2) h;simpa using this
end Go.Lamb
namespace Go.Proofs.YtdlkenpilhakfaaGreatDoor
open Go.RowKit Go.Shelf Go.Lamb
section
attribute [local go_sem] Oper.semAt_some
def NC(w:World)(l:List av)(name:cb)(A:Option Addr)(cap:Nat)(pre:List (_root_.Fin l.length))(W:World):Prop:=
 Below w.heap.size w W/\W.cell? ⟨w.heap.size,0,none⟩=some (.slice A l.length cap)/\W.cell? ⟨w.heap.size+1,0,none⟩=some (.string (bs name))/\(∃v,W.cell? ⟨w.heap.size+2,0,none⟩=some v)/\W.frozen? ⟨w.heap.size+2,0,none⟩=false/\w.heap.size+3<=W.heap.size/\∀x∈pre,(l[x].name==name)=false
def ND(w:World)(l:List av)(name:cb)(c:Code)(pre:List (_root_.Fin l.length))(W:World):Prop:=
 c= .ret/\Below w.heap.size w W/\∃r x,pre=r++[x]/\W.cell? ⟨w.heap.size+2,0,none⟩=some (.int .i64 (x.1:Nat))/\(l[x].name==name)=true/\∀y∈r,(l[y].name==name)=false
def YF{w:World}{l:List av}{name:cb}{A:Option Addr}{cap B:Nat}(D:w.heap.size<=B):OwnFrom B (NC w l name A cap):=by
 rintro pre W E c ⟨i,j,p,⟨v,g⟩,t,F,u⟩ hg h;have b:∀r,c=some r->∃o:Obj,W.heap[r]?=some o/\o.isCells=false:=fun r e=>(h r e).2;exact⟨i.grown hg (by omega) (fun k e=>by have:=(h k e).1;omega),gY j hg b,gY p hg b,⟨v,gY g hg b⟩,(frozen_kept g hg b).trans t,by have:=hg.size;omega,u⟩
def YH{w:World}{l:List av}{name:cb}{B:Nat}(A:w.heap.size<=B)(c:Code):OwnFrom B (ND w l name c):=by
 rintro pre W D b ⟨h0,h,r,x,p,i,t,u⟩ hg j;have g:∀r,b=some r->∃o:Obj,W.heap[r]?=some o/\o.isCells=false:=fun r e=>(j r e).2;have:=hg.size;have E:=NF i;exact⟨h0,h.grown hg (by have:=h.size;omega) (fun k e=>by have:=(j k e).1;omega),r,x,p,gY i hg g,t,u⟩
def YI(w:World)(o:Obj)(i:Nat)(h:i<w.heap.size):(w.alloc o).heap[i]?=w.heap[i]?:=by first|exact heap_alloc_old w o i h|exact heap_alloc_old w o h
def NG{W:World}{a:Addr}{v:Value}(h:W.cell? a=some v):(loadVar 3 a).run prog W= .ok v W:=by
 simp only[loadVar,Sem.run_bind,Sem.run_pure,Result.andThen_ok,Go.Lamb.pa underlying3,kb,Bool.false_eq_true,if_false];simp[go_sem,h]
set_option maxRecDepth 100000 in
set_option maxHeartbeats 4000000 in
def EB{w:World}(l:List av)(name:cb)(hl:l.length<=1000000)(A:Option Addr)(cap:Nat)(xs:Nat->Value)(b off:Nat)(hA:0<l.length->A=some ⟨b,off,none⟩)(P:∀k,k<l.length*5->w.cell? ⟨b,off+k,none⟩=some (xs k))(hb:0<l.length->b<w.heap.size)
  (hxs:∀i (hi:i<l.length),xs (i*5)= .string (bs l[i].name)/\(xs (i*5+1)).oneCell'=true/\(xs (i*5+2)).oneCell'=true/\(xs (i*5+3)).oneCell'=true/\(xs (i*5+4)).oneCell'=true):
  Calls prog 121 #[.slice A l.length cap,.string (bs name)] w (fun e w'=>e= .returned (.int .i64 (cZ name 0 l))/\Below w.heap.size w w'):=by
 refine(callsIn_wide (n:=3)).1 ?_;refine callsIn_of_wp_marks func121 rfl trivial ?_ rfl;simp only[ntmps121,pZ,bG,dU,iA,tZ,xn,xp,xq,xr,dK,iB]
 gi_wp2_with (refine⟨trivial,?_⟩;gi_at_call 179;refine(YB Fence.wide 2 trivial rfl _ _ _ _).mono ?_;rintro e w' ⟨rfl,rfl⟩)
 obtain⟨t,g⟩:∃t,((((w.alloc (.cells #[.slice A l.length cap] 23)).alloc (.cells #[.string (bs name)] 9)).alloc (.cells #[.int .i64 0] 3)).alloc (.cells #[.slice A l.length cap] 23))=t:=⟨_,rfl⟩;rw[g];have hsz:t.heap.size=w.heap.size+4:=by rw[<-g];simp
 have F:Below w.heap.size w t:=by
  rw[<-g];exact((((fJ _ w).alloc (aA _) _).alloc (by simp) _).alloc (by simp;omega) _).alloc (by simp;omega) _
 have hc0:t.cell? ⟨w.heap.size,0,none⟩=some (.slice A l.length cap):=by
  rw[<-g];exact kE _ (kE _ (kE _ (xt _ _ _ _ rfl)))
 have hc1:t.cell? ⟨w.heap.size+1,0,none⟩=some (.string (bs name)):=by
  rw[<-g];exact kE _ (kE _ (xt _ _ _ _ (by simp)))
 have Q:t.heap[w.heap.size+2]?=some (.cells #[.int .i64 0] 3 (0,0)):=by
  rw[<-g,YI _ _ _ (by simp)];have:=heap_alloc_new ((w.alloc (.cells #[.slice A l.length cap] 23)).alloc (.cells #[.string (bs name)] 9)) (.cells #[.int .i64 0] 3);simpa using this
 have hc2:t.cell? ⟨w.heap.size+2,0,none⟩=some (.int .i64 0):=by rw[cell_of_row _ _ _ _ _ _ Q];rfl
 have hf2:t.frozen? ⟨w.heap.size+2,0,none⟩=false:=by simp[World.frozen?,Q]
 have hcD:t.cell? ⟨w.heap.size+1+1+1,0,none⟩=some (.slice A l.length cap):=by
  rw[<-g];exact xt _ _ _ _ (by simp)
 refine wpIn_rangeFunc_ownH rfl (by omega) (gf:=226) (lb:=#[.pointer (some ⟨w.heap.size+1+1+1,0,none⟩)]) rfl trivial (enters_of func226 (by kernel_rfl) rfl)
  (YC Fence.wide 2 trivial rfl (by omega) (w.heap.size+1+1+1) w.heap.size b off l.length cap A hA xs hl hb t (by omega) (by omega) hcD (fun j hj=>(F.cell (p:=⟨b,off+j,none⟩) (hb (by omega))).trans (P j hj)))
  fE.trans (fE.yy (by omega)) (fJ _ _) (fun _=>rfl)
  (NC w l name A cap)
  (ND w l name) (YF (by omega)) (YH (by omega)) ?h0
  (fun x a' _=>a'={tmps:=#[.slice A l.length cap,.string (bs name),.pointer (some ⟨w.heap.size,0,none⟩),.pointer (some ⟨w.heap.size+1,0,none⟩),.pointer (some ⟨w.heap.size+1+1,0,none⟩),.int .i64 (x.1:Nat),.slice A l.length cap,.func (.func 226) #[] #[.pointer (some ⟨w.heap.size+1+1+1,0,none⟩)],.int .i64 (x.1:Nat),An xs x.1,undef,undef,undef,undef,undef,undef,undef,undef],defers:=[]}) ?hAx ?assign ?body ?done ?stop
 case h0=>exact⟨F,hc0,hc1,⟨_,hc2⟩,hf2,by omega,fun x X=>by cases X⟩
 case hAx=>exact fun x a'=>ownFrom_pure _ _
 case assign=>
  intro l' pre x W K hi M
  gi_wp2
  exact M _ _ ((KeepsOthers.refl _).from _) (fE.refl _ _ _) hi rfl
 case body=>
  rintro l' pre x a' W hl' ⟨r,hr⟩ ⟨E,h2,Y,⟨v4,N⟩,O,h6,Z⟩ rfl hlt;obtain⟨k0,k1,k2,k3,k4⟩:=hxs x.1 x.2;have hxl:x.1<l.length:=x.2;obtain rfl:=hA (by omega);have p0:=(E.cell (p:=⟨b,off+x.1*5,none⟩) (hb (by omega))).trans (P (x.1*5) (by omega));rw[k0]at p0;have J:W.cell? ⟨w.heap.size+1+1,0,none⟩=some v4:=N;have h5':W.frozen? ⟨w.heap.size+1+1,0,none⟩=false:=O
  gi_wp2
  refine YE (by kernel_rfl) (by kernel_rfl) (by kernel_rfl) (fun⟨_,_,h⟩=>h) ?_
  repeat (quiet_step (skip))
  refine wpQuiet_nil ?_;intro _ hw';obtain⟨nq,R⟩:=hw';subst R;have u:Below w.heap.size W (W.drewN nq):=⟨rfl,rfl,rfl,aA _,fun _ _=>rfl⟩;cases hq:(l[x.1].name==name)
  ·gi_wp2
   refine⟨?_,⟨u,fun v hv=>hv⟩,E.trans u,h2,Y,⟨v4,N⟩,O,h6,fun y hy=>?_⟩
   ·exact⟨aA _,fun k o _ h _=>h⟩
   ·rcases cJ.1 hy with hy|hy
    ·exact Z y hy
    ·have:=mv.1 hy;subst this;exact hq
  ·gi_wp2
   have hs:((W.drewN nq).setCell ⟨w.heap.size+1+1,0,none⟩ (.int .i64 (x.1:Nat))).cell? ⟨w.heap.size+1+1,0,none⟩=some (.int .i64 (x.1:Nat)):=xu _ _ _ (by show((W.drewN nq).cell? _).isSome=true;rw[World.cell?_drewN,J];rfl);refine⟨?_,rfl,(E.trans u).setCell (p:=⟨w.heap.size+1+1,0,none⟩) (by show w.heap.size<=w.heap.size+1+1;omega) _,pre,x,rfl,hs,hq,Z⟩;have hk0:KeepsFrom t.heap.size W (W.drewN nq):=⟨aA _,fun k o _ h _=>h⟩;exact hk0.trans ((xv _ _ _).from _)
 case done=>
  rintro D ys W hD hS ⟨E,h2,Y,⟨v4,N⟩,O,h6,Z⟩ M;have T:∀x∈l,(x.name==name)=false:=fun x X=>by
   obtain⟨j,hj,rfl⟩:=eH X;have:j∈ys.map jB:=by
    rw[hS];exact eU.2 ⟨l.length-1-j,nE.2 (by omega),by omega⟩
   obtain⟨y,hy,rfl⟩:=eU.1 this;exact Z y hy
  have J:W.cell? ⟨w.heap.size+1+1,0,none⟩=some v4:=N;have h5':W.frozen? ⟨w.heap.size+1+1,0,none⟩=false:=O
  gi_wp2
  have U:(W.setCell ⟨w.heap.size+1+1,0,none⟩ (.int .i64 (-1))).heap[D]?=some (.deferred (some [])):=(xv _ _ _).same D _ M rfl;refine⟨by simp,.inl ⟨_,_,rfl,run_takeDeferred U,?_⟩⟩;have hg:((W.setCell ⟨w.heap.size+1+1,0,none⟩ (.int .i64 (-1))).putObj D (.deferred none)).cell? ⟨w.heap.size+1+1,0,none⟩=some (.int .i64 (-1)):=gY (xu _ _ _ (by rw[J];rfl)) (ud _ D (.deferred none)) (fun r e=>by cases e;exact⟨_,U,rfl⟩);have L:Below w.heap.size w ((W.setCell ⟨w.heap.size+1+1,0,none⟩ (.int .i64 (-1))).putObj D (.deferred none)):=(E.setCell (p:=⟨w.heap.size+1+1,0,none⟩) (by show w.heap.size<=w.heap.size+1+1;omega) _).grown (ud _ D (.deferred none)) (by have:=E.size;simpa using this) (fun k e=>by cases e;omega)
  refine⟨.int .i64 (-1),by simp[results,Tryz.f121,asAddr,NG hg],?_,L⟩;rw[vW name l 0 T]
 case stop=>
  rintro D c pre W hD ⟨k,hk,G⟩ ⟨rfl,E,r,x,rfl,Y,N,O⟩ M;have dI:cZ name 0 l=((x.1:Nat):Int):=by
   have:=Am name l 0 x.1 x.2 N fun j hj hj'=>by
    rw[dF,Ao]at G;obtain⟨q1,q2⟩:=List.append_inj' G rfl;have X:x.1=l.length-1-k:=by simpa using q2
    have:j∈r.map jB:=by
     rw[q1];exact eU.2 ⟨l.length-1-j,nE.2 (by omega),by omega⟩
    obtain⟨y,hy,rfl⟩:=eU.1 this;exact O y hy
   rw[this,eJ]
  have h3':W.cell? ⟨w.heap.size+1+1,0,none⟩=some (.int .i64 (x.1:Nat)):=Y
  gi_wp2
  refine⟨by simp,.inl ⟨_,_,rfl,run_takeDeferred M,?_⟩⟩;have hg:(W.putObj D (.deferred none)).cell? ⟨w.heap.size+1+1,0,none⟩=some (.int .i64 (x.1:Nat)):=gY h3' (ud _ D (.deferred none)) (fun r e=>by cases e;exact⟨_,M,rfl⟩);have L:Below w.heap.size w (W.putObj D (.deferred none)):=E.grown (ud _ D (.deferred none)) E.size (fun k e=>by cases e;omega);refine⟨.int .i64 (x.1:Nat),by simp[results,Tryz.f121,asAddr,NG hg],?_,L⟩;rw[dI]
def YJ{w0 w:World}{κ:K}{σ:H}(c:aB w0 κ σ w)(l:List av)(name:cb)(hl:l.length<=1000000)(A:Option Addr)(len cap:Nat)(j:RC κ.m (fy l) (.slice A len cap)):
  Calls prog 121 #[.slice A len cap,.string (bs name)] w (fun e w'=>e= .returned (.int .i64 (cZ name 0 l))/\Below w.heap.size w w'):=by
 obtain⟨rfl,xs,p,i⟩:=YD j;by_cases h:0<l.length
 ·obtain⟨b,o,e,g⟩:=p h;exact EB l name hl A cap xs b o (fun _=>e) (fun k hk=>c.mem _ _ _ (g k hk)) (fun _=>c.nK (g 0 (by omega))) i
 ·exact EB l name hl A cap xs 0 0 (fun g=>absurd g h) (fun k hk=>by omega) (fun g=>absurd g h) i
def Ap(w0:World)(l:List av)(name:cb)(hl:l.length<=1000000)(σ:H):DC prog w0 121 [.c (fy l),S name] σ (Same (I (cZ name 0 l)) σ):=by
 refine DC.Cy (jC func121 (by kernel_rfl) rfl) fun κ w vs g b=>?_;obtain⟨v,ys,rfl,i,b⟩:=b.cons_inv;obtain⟨u,zs,rfl,j,b⟩:=b.cons_inv;have:=b.jZ;subst this;cases i with
 |c i=>
  have p:=i;unfold fy at i;cases i with
  |sl rows s A cap xs h0 t D E F G=>
   cases j with
   |c j=>
    cases j with
    |str _ h=>
     refine(YJ g l name hl A _ cap p).mono ?_;rintro e w' ⟨rfl,r⟩;exact⟨_,rfl,r,.c (.int _ _)⟩
end
end Go.Proofs.YtdlkenpilhakfaaGreatDoor
namespace Go.Lamb
open Go Go.RowKit
def bX(l:List av):List C:=(l.map av.cs).flatten
def pH(l:List av):∀r∈l.map av.cs,r.length=5:=fun r b=>by
 obtain⟨x,_,rfl⟩:=eU.1 b;rfl
def nh(l:List av):(bX l).length=l.length*5:=by unfold bX;rw[MY (pH l),bY]
def NH(l:List av)(x:av):bX (l++[x])=bX l++x.cs:=by simp[bX]
def EC{l:List av}{i:Nat}(b:i<l.length):((bX l).drop (i*5)).take 5=l[i].cs:=by
 unfold bX;rw[MZ (pH l) (by rw[bY];exact b),eI]
def ED{l:List av}{i:Nat}(c:i<l.length):(bX l)[i*5]?=some (.str l[i].name):=by
 have h:=EC c;have b:(((bX l).drop (i*5)).take 5)[0]?=some (.str l[i].name):=by rw[h];rfl
 rw[List.getElem?_take_of_lt (by decide),List.getElem?_drop,nC]at b;exact b
end Go.Lamb
namespace Go.Proofs.YtdlkenpilhakfaaGreatDoor
open Go.RowKit Go.Lamb
def YK(w0:World)(l:List av)(name:cb)(hl:l.length<=1000000)(b:Nat)(J:List C)(σ:H)(A:σ[b]?=some (.vec 50 5 (bX l++J))):DC prog w0 121 [.vec b l.length,S name] σ (Same (I (cZ name 0 l)) σ):=by
 refine DC.Cy (jC func121 (by kernel_rfl) rfl) fun κ w vs r g=>?_;obtain⟨v,ys,rfl,N,g⟩:=g.cons_inv;obtain⟨u,zs,rfl,D,g⟩:=g.cons_inv;have:=g.jZ;subst this;obtain⟨E,F⟩:=aI.1 A;have p:=r.cg b E;rw[F]at p;obtain⟨cur,T,G,k0,L,U,k3,k4,k5,k6⟩:=p.row;have O:l.length*5<=cur.size:=by
  have X:(bX l++J).length=l.length*5+J.length:=by rw[bC,nh]
  have Y:=Nat.mul_le_mul_right 5 k3;omega
 have j:∀k,k<l.length*5->∃c,(bX l)[k]?=some c/\RC κ.m c (cur.getD k undef):=fun k hk=>by
  have t:k<(bX l).length:=by rw[nh];exact hk
  refine⟨(bX l)[k],aN t,?_⟩;have:=k6 k (by rw[bC];omega);rwa [cM t]at this
 cases N with
 |vec Z q1 q2 q3 q4 q5=>
  cases D with
  |c D=>
   cases D with
   |str _ h=>
    refine(EB l name hl _ _ (fun k=>cur.getD k undef) (κ.pos b) 0 (fun _=>rfl) (fun k hk=>?_) (fun _=>(Array.getElem?_eq_some_iff.1 L).1) (fun i P=>?_)).mono ?_
    ·rw[eJ,cell_of_row _ _ _ _ _ _ L,Array.getD_eq_getD_getElem?,Array.getElem?_eq_getElem (by omega)];rfl
    ·obtain⟨c0,h0,M⟩:=j (i*5) (by omega);obtain⟨c1,_,Q⟩:=j (i*5+1) (by omega);obtain⟨c2,_,R⟩:=j (i*5+2) (by omega);obtain⟨c3,_,r3⟩:=j (i*5+3) (by omega);obtain⟨c4,_,r4⟩:=j (i*5+4) (by omega);refine⟨?_,Q.one,R.one,r3.one,r4.one⟩;rw[ED P]at h0;injection h0 with h0;subst h0;show cur.getD (i*5) undef=_;generalize cur.getD (i*5) undef=z at M;cases M;rfl
    ·rintro e w' ⟨rfl,A⟩;exact⟨_,rfl,A,.c (.int _ _)⟩
end Go.Proofs.YtdlkenpilhakfaaGreatDoor
namespace Go.Lamb
open Go Go.RowKit
structure az where
 sub:List aa
 bound:List av
 vars:List av
 e:Int
 pos:Int
 live:Bool
structure Kept (n0 p:Nat) (σ τ:H):Prop where
 low:∀b,b<n0->τ[b]?=σ[b]?
 cells:∀(b:Nat) (cs:List V) (tg:Option TypeId),b≠p->σ[b]?=some (.cells cs tg)->τ[b]?=some (.cells cs tg)
 len:σ.length<=τ.length
def Kept.refl(n0 p:Nat)(σ:H):Kept n0 p σ σ:=⟨fun _ _=>rfl,fun _ _ _ _ h=>h,aA _⟩
def Kept.trans{n0 p:Nat}{a b c:H}(h:Kept n0 p a b)(k:Kept n0 p b c):Kept n0 p a c:=
 ⟨fun x e=>(k.low x e).trans (h.low x e),fun x cs tg hp e=>k.cells x cs tg hp (h.cells x cs tg hp e),Nat.le_trans h.len k.len⟩
def Kept.app{n0 p:Nat}{σ τ:H}(h:Kept n0 p σ τ)(h0:n0<=σ.length)(L:H):Kept n0 p σ (τ++L):=
 ⟨fun x b=>by rw[cr (by have:=h.len;omega)];exact h.low x b,fun x cs tg hp b=>by
   have:=h.cells x cs tg hp b;rw[cr (aI.1 this).1];exact this,by rw[bC];have:=h.len;omega⟩
def Kept.set{n0 p:Nat}{σ τ:H}(h:Kept n0 p σ τ){a:Nat}(x:ad)(h0:n0<=a)(ha:a=p\/σ.length<=a\/∀cs tg,σ[a]?≠some (.cells cs tg)):Kept n0 p σ (τ.set a x):=
 ⟨fun y b=>by rw[bA (by omega)];exact h.low y b,fun y cs tg hp b=>by
   have c:a≠y:=by
    rintro rfl;rcases ha with ha|ha|ha
    ·exact hp ha
    ·have:=(aI.1 b).1;omega
    ·exact ha _ _ b
   rw[bA c];exact h.cells y cs tg hp b,by rw[bz];exact h.len⟩
def oe{σ:H}{q b:Nat}{x B:ad}(h:σ[b]?=some B)(c:σ[q]?≠some B):(σ.set q x)[b]?=some B:=by
 have:q≠b:=by rintro rfl;exact c h
 rw[bA this];exact h
def YL{s l:List aa}{n:Int}(h0:0<=n)(h:n<s.length):cq (s++l) n=cq s n:=by
 unfold cq;rw[cx,cx,cr (by omega)]
def EE{N:Nat}{s:List aa}(E:1<=N)(F:s.length<1000000)(h:bO N s):bO N (s++[aJ s.length]):=by
 have p:(s++[aJ s.length]).length=s.length+1:=by simp
 have u:ay (s.length+1) (aJ s.length):=ij (by omega) (by omega) (by omega);refine⟨⟨fun t hm=>?_,?_⟩,fun t hm=>?_⟩
 ·rw[p];rcases cJ.1 hm with hm|hm
  ·exact(h.right.holds t hm).mono (by omega)
  ·rw[mv.1 hm];exact u
 ·obtain⟨w,A⟩:=h.right.Cv;refine⟨w,fun i D b v r=>?_⟩;rw[p]at D;by_cases c:i<s.length
  ·have e:cq (s++[aJ s.length]) (i:Int)=cq s i:=YL (by omega) (by omega);rw[e]at r;refine A i c ?_ v r;unfold bJ at b⊢;have g:(aJ (i:Int)).n=i:=rfl;rw[g,e]at b;exact b
  ·have j:i=s.length:=by omega
   subst j;exfalso;have e:cq (s++[aJ s.length]) (s.length:Int)=aJ s.length:=by
    unfold cq;rw[cx,da (by simp),Int.toNat_natCast,cw];rfl
   unfold bJ at b;have g:(aJ (s.length:Int)).n=s.length:=rfl;rw[g,e]at b;simp[aJ,aO,aL]at b
 ·rcases cJ.1 hm with hm|hm
  ·exact h.size t hm
  ·rw[mv.1 hm,aJ,ct,aH,bE];omega
noncomputable def dw(s:List aa)(a b:aa):Int×List aa:=by
 classical
 exact if h:∃r:Int×List aa,ee 4096 s [(a,b)] r.1 r.2/\bO 100000 r.2/\r.2.length=s.length then xw h else(0,s)
def rf{s:List aa}(c:bO 100000 s)(g:s.length<=1000000){a b:aa}(hp:de s.length 100000 (a,b)):ee 4096 s [(a,b)] (dw s a b).1 (dw s a b).2/\bO 100000 (dw s a b).2/\(dw s a b).2.length=s.length:=by
 have h:∃r:Int×List aa,ee 4096 s [(a,b)] r.1 r.2/\bO 100000 r.2/\r.2.length=s.length:=by
  obtain⟨e,s',h⟩:=Is (N:=100000) (by decide) 4096 s [(a,b)] c g (fun p i=>by rw[mv.1 i];exact hp);exact⟨(e,s'),h⟩
 unfold dw;rw[dif_pos h];exact Bm h
namespace az
def fail(f:az)(e pos:Int):az:=if f.e=0 then{f with e:=e,pos:=pos}else f
def fresh(f:az):az:={f with sub:=f.sub++[aJ f.sub.length]}
noncomputable def one(f:az)(a b:aa):az:={f with sub:=(dw f.sub a b).2,live:=f.live&&((dw f.sub a b).1==0&&!f.sub.isEmpty)}
noncomputable def ix(f:az)(a b:aa):Bool:=(dw f.sub a b).1==0
end az
end Go.Lamb
namespace Go.Proofs.YtdlkenpilhakfaaGreatDoor
open Go.RowKit Go.Lamb
def eF(n0:Nat)(σ:H)(y:V)(s:List aa):Prop:=(s=[]/\y= .ae [])\/∃b,n0<=b/\y= .vec b s.length/\σ[b]?=some (.vec 34 4 (aK s))/\s≠[]
def tq(n0:Nat)(σ:H)(y:V)(l:List av):Prop:=(l=[]/\y= .ae [])\/∃b J,n0<=b/\y= .vec b l.length/\σ[b]?=some (.vec 50 5 (bX l++J))
def tu(n0:Nat)(σ:H)(y:V)(l:List av):Prop:=(l=[]/\y= .ae [])\/∃b,n0<=b/\y= .aC b (l.map av.cs)/\σ[b]?=some (.spare 50 5 l.length)
def bh(g:Sg)(f:az)(y3 y4 y5:V):ad:=.cells [.c (jL g.kinds),.c (fy g.types),.c (mP g.ops),y3,y4,y5,I f.e,I f.pos] none
structure aS (n0:Nat) (σ:H) (p:Nat) (g:Sg) (f:az) (y3 y4 y5:V):Prop where
 here:σ[p]?=some (bh g f y3 y4 y5)
 le:n0<=p
 sub:f.live=true->eF n0 σ y3 f.sub
 dn:tq n0 σ y4 f.bound
 var:tu n0 σ y5 f.vars
section
variable {n0 p:Nat} {σ τ:H} {g:Sg} {f:az} {y3 y4 y5:V}
def eF.mono{y:V}{s:List aa}(h:eF n0 σ y s)(g:∀(b:Nat) c,n0<=b->σ[b]?=some (.vec 34 4 c)->τ[b]?=some (.vec 34 4 c)):eF n0 τ y s:=h.imp id fun⟨b,e,i,j,p⟩=>⟨b,e,i,g b _ e j,p⟩
def tq.mono{y:V}{s:List av}(h:tq n0 σ y s)(g:∀(b:Nat) c,n0<=b->σ[b]?=some (.vec 50 5 c)->τ[b]?=some (.vec 50 5 c)):tq n0 τ y s:=h.imp id fun⟨b,J,e,i,j⟩=>⟨b,J,e,i,g b _ e j⟩
def tu.mono{y:V}{s:List av}(h:tu n0 σ y s)(e:∀(b:Nat) k,n0<=b->σ[b]?=some (.spare 50 5 k)->τ[b]?=some (.spare 50 5 k)):tu n0 τ y s:=h.imp id fun⟨b,c,g,i⟩=>⟨b,c,g,e b _ c i⟩
def aS.lt(h:aS n0 σ p g f y3 y4 y5):p<σ.length:=(aI.1 h.here).1
def aS.mono(h:aS n0 σ p g f y3 y4 y5)(j:∀(b:Nat) B,n0<=b->(∀cs tg,B≠ .cells cs tg)->σ[b]?=some B->τ[b]?=some B)(hp:τ[p]?=some (bh g f y3 y4 y5)):aS n0 τ p g f y3 y4 y5:=
 ⟨hp,h.le,fun hl=>(h.sub hl).mono fun b c h0 i=>j b _ h0 (fun _ _ e=>by cases e) i,h.dn.mono fun b c h0 i=>j b _ h0 (fun _ _ e=>by cases e) i,h.var.mono fun b c h0 i=>j b _ h0 (fun _ _ e=>by cases e) i⟩
def aS.app(h:aS n0 σ p g f y3 y4 y5)(L:H):aS n0 (σ++L) p g f y3 y4 y5:=
 h.mono (fun b B _ _ c=>by rw[cr (aI.1 c).1];exact c) (by rw[cr h.lt];exact h.here)
def aS.put{f':az}{z3 z4 z5:V}(h:aS n0 σ p g f y3 y4 y5)(j:f'.live=true->eF n0 σ z3 f'.sub)(r:tq n0 σ z4 f'.bound)(t:tu n0 σ z5 f'.vars):aS n0 (σ.set p (bh g f' z3 z4 z5)) p g f' z3 z4 z5/\Kept n0 p σ (σ.set p (bh g f' z3 z4 z5)):=by
 have hk:∀(b:Nat) (B:ad),(∀cs tg,B≠ .cells cs tg)->σ[b]?=some B->(σ.set p (bh g f' z3 z4 z5))[b]?=some B:=fun b B u i=>oe i (fun e=>by
  rw[h.here]at e;injection e with e;exact u _ _ e.symm)
 exact⟨⟨bW h.lt,h.le,fun hl=>(j hl).mono fun b c _ i=>hk b _ (fun _ _ e=>by cases e) i,r.mono fun b c _ i=>hk b _ (fun _ _ e=>by cases e) i,t.mono fun b c _ i=>hk b _ (fun _ _ e=>by cases e) i⟩,(Kept.refl _ _ _).set _ h.le (.inl rfl)⟩
def aS.box(h:aS n0 σ p g f y3 y4 y5){a:Nat}{cs:List V}{tg:Option TypeId}(ha:σ[a]?=some (.cells cs tg))(hp:a≠p)(x:ad):aS n0 (σ.set a x) p g f y3 y4 y5:=
 h.mono (fun b B _ c i=>oe i (by rw[ha];intro e;injection e with e;exact c _ _ e.symm)) (by rw[bA hp];exact h.here)
def aS.vX{σ1:H}(h:aS n0 σ p g f y3 y4 y5)(hn:n0<=σ.length)(hl:σ1.length=σ.length)(A:∀b:Nat,σ1[b]?=σ[b]?\/(n0<=b/\∃c,σ[b]?=some (.vec 34 4 c)))(s':List aa)(t:s'≠[])(D:Bool):
  aS n0 (σ1.set p (bh g f (.vec σ.length s'.length) y4 y5)++[.vec 34 4 (aK s')]) p g {f with sub:=s',live:=D} (.vec σ.length s'.length) y4 y5/\Kept n0 p σ (σ1.set p (bh g f (.vec σ.length s'.length) y4 y5)++[.vec 34 4 (aK s')]):=by
 have j:p<σ1.length:=by rw[hl];exact h.lt
 have key:∀(b:Nat) B,(∀c,B≠ .vec 34 4 c)->b≠p->σ[b]?=some B->(σ1.set p (bh g f (.vec σ.length s'.length) y4 y5)++[.vec 34 4 (aK s')])[b]?=some B:=fun b B u i hσ=>by
  have w:b<(σ1.set p (bh g f (.vec σ.length s'.length) y4 y5)).length:=by rw[bz,hl];exact(aI.1 hσ).1
  rw[cr w,bA (dz i)];rcases A b with e|⟨_,c,e⟩
  ·rw[e];exact hσ
  ·rw[hσ]at e;injection e with e;exact absurd e (u c)
 have r:∀b B,(∀cs tg,B≠ .cells cs tg)->σ[b]?=some B->b≠p:=by
  rintro b B u i rfl;rw[h.here]at i;injection i with i;exact u _ _ i.symm
 refine⟨⟨?_,h.le,fun _=>.inr ⟨σ.length,hn,rfl,?_,t⟩,h.dn.mono fun b c _ i=>key b _ (fun _ e=>by cases e) (r b _ (fun _ _ e=>by cases e) i) i,h.var.mono fun b c _ i=>key b _ (fun _ e=>by cases e) (r b _ (fun _ _ e=>by cases e) i) i⟩,⟨fun b i=>?_,fun b cs tg i hσ=>key b _ (fun _ e=>by cases e) i hσ,?_⟩⟩
 ·rw[cr (by rw[bz];exact j),bW j];rfl
 ·rw[da (by rw[bz,hl];exact aA _),bz,hl,cw];rfl
 ·have E:=h.le;rw[cr (by rw[bz];omega),bA (by omega)];rcases A b with e|⟨e,_⟩
  ·exact e
  ·omega
 ·rw[bC,bz,hl];exact Nat.le_add_right _ _
def Aq{F:FuncId}{fn:Func}(K:aq prog F 1 fn qZ re)(w0:World)(h:aS n0 σ p g f y3 y4 y5)(hn:n0<=σ.length)(hl:f.live=true)(w:f.sub.length<=999999):
  ∃τ,DC prog w0 F [.ptr p 0] σ (Same (aJ f.sub.length).v τ)/\aS n0 τ p g f.fresh (.vec σ.length (f.sub.length+1)) y4 y5/\Kept n0 p σ τ:=by
 have j:(f.sub++[aJ f.sub.length]).length=f.sub.length+1:=by simp
 have r:f.fresh={f with sub:=f.sub++[aJ f.sub.length],live:=f.live}:=rfl;rcases h.sub hl with⟨h0,rfl⟩|⟨b,i,rfl,t,_⟩
 ·have c:=h.vX (σ1:=σ) hn rfl (fun _=>.inl rfl) (f.sub++[aJ f.sub.length]) (by simp) f.live;rw[j]at c;refine⟨_,?_,by rw[r];exact c.1,c.2⟩;rw[h0];exact Yv K w0 p σ _ _ _ y4 y5 _ _ none h.here
 ·have c:=h.vX (σ1:=σ.set b .gone) hn (bz ..) (fun u=>by
   by_cases e:u=b
   ·subst e;exact .inr ⟨i,_,t⟩
   ·exact .inl (bA (dz e))) (f.sub++[aJ f.sub.length]) (by simp) f.live
  rw[j]at c;exact⟨_,Yu K w0 (by omega) p b σ _ _ _ y4 y5 _ _ none h.here t,by rw[r];exact c.1,c.2⟩
def tv(w0:World)(h:aS n0 σ p g f y3 y4 y5)(hn:n0<=σ.length)(hl:f.live=true)(b:f.sub.length<=999999):
 ∃τ,DC prog w0 67 [.ptr p 0] σ (Same (aJ f.sub.length).v τ)/\aS n0 τ p g f.fresh (.vec σ.length (f.sub.length+1)) y4 y5/\Kept n0 p σ τ:=Aq Ez w0 h hn hl b
def NI(w0:World)(h:aS n0 σ p g f y3 y4 y5)(hn:n0<=σ.length)(hl:f.live=true)(E:f.sub.length<=1000000)(F:bO 100000 f.sub){a b:aa}(hp:de f.sub.length 100000 (a,b)):
  ∃τ G,DC prog w0 26 [.ptr p 0,a.v,b.v] σ (Same (B (f.ix a b)) τ)/\aS n0 τ p g (f.one a b) G y4 y5/\Kept n0 p σ τ:=by
 obtain⟨u,U,J⟩:=rf F E hp;obtain⟨ha,j,L,M⟩:=hp;rcases h.sub hl with⟨h0,rfl⟩|⟨b0,w,rfl,i,O⟩
 ·have r:(f.one a b).live=false:=by unfold az.one;rw[h0];simp
  have t:(dw f.sub a b).2=[]:=fM (by rw[J,h0];rfl);have A:=Yy w0 (N:=100000) (by decide) (a:=a) (b:=b) (by rw[h0]at ha;exact ha) L (by rw[h0]at j;exact j) M (e:=(dw f.sub a b).1) (by rw[t,h0]at u;rw[h0];exact u) p σ _ _ _ y4 y5 _ _ none h.here;have P:=h.lt;have hk:∀B:ad,(∀cs tg,B≠ .cells cs tg)->σ[p]?≠some B:=fun B Q e=>by
   rw[h.here]at e;injection e with e;exact Q _ _ e.symm
  refine⟨_,_,A,⟨bW P,h.le,fun e=>(by rw[r]at e;cases e),h.dn.mono fun b c _ i=>oe i (hk _ (fun _ _ e=>by cases e)),h.var.mono fun b c _ i=>oe i (hk _ (fun _ _ e=>by cases e))⟩,(Kept.refl _ _ _).set _ h.le (.inl rfl)⟩
 ·by_cases D:(dw f.sub a b).1=0
  ·have R:=h.vX (σ1:=σ.set b0 .gone) hn (bz ..) (fun T=>by
    by_cases e:T=b0
    ·subst e;exact .inr ⟨w,_,i⟩
    ·exact .inl (bA (dz e))) (dw f.sub a b).2 (fun e=>O (fM (by rw[<-J,e];rfl))) (f.one a b).live
   rw[J]at R;have A:=Yw w0 F (by decide) (by decide) E O ha L j M (s':=(dw f.sub a b).2) (by rw[D]at u;exact u) p b0 σ _ _ _ y4 y5 _ _ none h.here i;refine⟨_,_,?_,R.1,R.2⟩;have:f.ix a b=true:=by unfold az.ix;simp[D]
   rw[this];exact A
  ·have A:=Yx w0 F (by decide) (by decide) E O ha L j M u D p b0 σ _ _ _ y4 y5 _ _ none h.here i;have:f.ix a b=false:=by unfold az.ix;simp[D]
   have r:(f.one a b).live=false:=by unfold az.one;simp[D]
   rw[this];have hk:∀B:ad,(∀c,B≠ .vec 34 4 c)->σ[b0]?≠some B:=fun B Q e=>by
    rw[i]at e;injection e with e;exact Q _ e.symm
   refine⟨_,_,A,⟨oe h.here (hk _ (fun _ e=>by cases e)),h.le,fun e=>(by rw[r]at e;cases e),h.dn.mono fun b c _ i=>oe i (hk _ (fun _ e=>by cases e)),h.var.mono fun b c _ i=>oe i (hk _ (fun _ e=>by cases e))⟩,(Kept.refl _ _ _).set _ w (.inr (.inr fun cs tg e=>by rw[i]at e;cases e))⟩
end
end Go.Proofs.YtdlkenpilhakfaaGreatDoor
namespace Go.Lamb
open Go Go.RowKit
def ni(n:Int)(t:aa):aa:=(b8 (gA n) () t).1
namespace az
def more(f:az):Nat->az
 |0=>f
 |n+1=>(more f n).fresh
def ca(f:az)(t:aa):aa:=ni f.sub.length (bT t)
def renew(f:az)(t:aa):az:=f.more (bS 0 (bT t)).toNat
def push(f:az)(x:av):az:={f with bound:=f.bound++[x]}
def pop(f:az):az:={f with bound:=f.bound.dropLast}
def gO(f:az)(x:av):az:={f with vars:=f.vars++[x]}
end az
end Go.Lamb
namespace Go.Proofs.YtdlkenpilhakfaaGreatDoor
open Go Go.RowKit Go.Lamb
def jt(g:Sg)(name:cb):Option aa:=match mU g.types name with
 |some x=>if bZ x.ty=true then some x.ty else none
 |none=>none
def rh(g:Sg)(f:az)(p:al):aa×aa×az:=match jt g p.name with
 |some t=>(.mk 0 p.name 0 [],f.ca t,f.renew t)
 |none=>(.mk 0 p.name 0 [],.none,f.fail 120 p.pos)
def jM(f:az)(p:al):aa×aa×az:=
 if cZ p.name 0 f.vars<0 then(.mk 4 [] f.vars.length [],aJ f.sub.length,f.fresh.gO ⟨p.name,aJ f.sub.length⟩)
 else(.mk 4 [] (cZ p.name 0 f.vars) [],(f.vars.getD (cZ p.name 0 f.vars).toNat .none).ty,f)
def ri(f:az)(i:Int):aa×aa×az:=(.mk 3 [] (f.bound.length-1-i) [],(f.bound.getD i.toNat .none).ty,f)
def gP(g:Sg)(f:az)(p:al):aa×aa×az:=
 if 0<=cZ p.name 0 f.bound then ri f (cZ p.name 0 f.bound)else if p.k=1 then jM f p else rh g f p
def og(v:aa)(r:aa×aa×az):aa×aa×az:=(bk r.1,.arr v r.2.1,r.2.2.pop)
noncomputable def lW(pos:Int)(r q:aa×aa×az):aa×aa×az:=
 if q.2.2.e≠0 then(.none,.none,q.2.2)
 else(bP r.1 [q.1],aJ q.2.2.sub.length,if q.2.2.fresh.ix r.2.1 (.arr q.2.1 (aJ q.2.2.sub.length))=true then q.2.2.fresh.one r.2.1 (.arr q.2.1 (aJ q.2.2.sub.length))else(q.2.2.fresh.one r.2.1 (.arr q.2.1 (aJ q.2.2.sub.length))).fail 121 pos)
noncomputable def bI(g:Sg):al->az->aa×aa×az
 | .mk k c n [b] pos=>fun f=>if f.e≠0 then(.none,.none,f)else if k=2 then(.mk 2 [] n [],.mk 0 [105,110,116] 0 [],f)
   else if k=4 then og (aJ f.sub.length) (bI g b (f.fresh.push ⟨c,aJ f.sub.length⟩))else gP g f (.mk k c n [b] pos)
 | .mk k c n [a,b] pos=>fun f=>if f.e≠0 then(.none,.none,f)else if k=2 then(.mk 2 [] n [],.mk 0 [105,110,116] 0 [],f)
   else if k=3 then lW pos (bI g a f) (bI g b (bI g a f).2.2)else gP g f (.mk k c n [a,b] pos)
 | .mk k c n l pos=>fun f=>if f.e≠0 then(.none,.none,f)else if k=2 then(.mk 2 [] n [],.mk 0 [105,110,116] 0 [],f)else gP g f (.mk k c n l pos)
def tw(g:Sg)(t:al)(f:az)(h:f.e≠0):bI g t f=(.none,.none,f):=by
 unfold bI;split<;>simp only[if_pos h]
def EF(g:Sg)(t:al)(f:az)(h:f.e=0)(hk:t.k=2):bI g t f=(.mk 2 [] t.n [],.mk 0 [105,110,116] 0 [],f):=by
 unfold bI;split<;>simp only[al.k]at hk<;>simp only[if_neg (not_not_intro h),if_pos hk,al.n]
def EG(g:Sg)(c:cb)(n:Int)(b:al)(pos:Int)(f:az)(h:f.e=0):bI g (.mk 4 c n [b] pos) f=og (aJ f.sub.length) (bI g b (f.fresh.push ⟨c,aJ f.sub.length⟩)):=by
 rw[bI];simp only[if_neg (not_not_intro h)];rfl
def EH(g:Sg)(c:cb)(n:Int)(a b:al)(pos:Int)(f:az)(h:f.e=0):bI g (.mk 3 c n [a,b] pos) f=lW pos (bI g a f) (bI g b (bI g a f).2.2):=by
 rw[bI];simp only[if_neg (not_not_intro h)];rfl
def NJ(g:Sg)(t:al)(f:az)(h:f.e=0)(b:t.k≠2)(c:t.k≠3)(i:t.k≠4):bI g t f=gP g f t:=by
 unfold bI;split<;>simp only[al.k]at b c i<;>simp only[if_neg (not_not_intro h),if_neg b]
 ·rw[if_neg i]
 ·rw[if_neg c]
end Go.Proofs.YtdlkenpilhakfaaGreatDoor
namespace Go.Lamb
open Go Go.RowKit
def nj(k:Int)(s:cb)(n:Int)(l:List aa):aw (.mk k s n l)=1+bE l:=by rw[aw]
def EI(p:aa):∀vs:List Int,(b8 b9 vs p).2.length<=vs.length+aw p:=by
 induction p using aa.ind with
 |h p e=>
  intro vs;rw[mT,ct];split
  ·have:=(CJ vs p.n).1;show(dm vs p.n).length<=_;omega
  ·have key:∀l:List aa,(∀x∈l,x∈p.l)->∀vs:List Int,(bF b9 vs l).2.length<=vs.length+bE l:=by
    intro l;induction l with
    |nil=>intro _ vs;simp[bF]
    |cons x l b=>
     intro c vs;rw[bF,bE];have j:=e x (c x (aZ ..)) vs;have r:=b (fun y g=>c y (bH _ g)) (b8 b9 vs x).2;simp only;omega
   have:=key p.l (fun x i=>i) vs;simp only;omega
def YM(p:aa):∀vs:List Int,vs.length+aw p<=1000000->bZ p=true->vs.length<=(b8 b9 vs p).2.length/\ay (b8 b9 vs p).2.length (b8 b9 vs p).1/\aw (b8 b9 vs p).1=aw p:=by
 refine aa.ind (P:=fun p=>∀vs:List Int,vs.length+aw p<=1000000->bZ p=true->vs.length<=(b8 b9 vs p).2.length/\ay (b8 b9 vs p).2.length (b8 b9 vs p).1/\aw (b8 b9 vs p).1=aw p) (fun p E vs F c=>?_) p;have b:=EI p vs;rw[mT]at b⊢;by_cases i:p.k=1
 ·rw[if_pos i]at b⊢;have hl:p.l=[]:=by
   rw[iL,bM]at c;have:=c.1;unfold iK at this;simp[i]at this;exact this.2
  unfold b9 at b⊢;dsimp only at b⊢;obtain⟨Q,G⟩:=CJ vs p.n;have J:iP vs p.n<(dm vs p.n).length:=by
   rcases Iy vs p.n with⟨L,r,_⟩|⟨h,r,_⟩
   ·rw[L,r];simp
   ·rw[r];exact h
  refine⟨G,ij (by omega) (by omega) (by omega),?_⟩;rw[aa.var,nj,ct p,hl]
 ·rw[if_neg i]at b⊢;dsimp only at b⊢;have hk:∀u∈p.l,bZ u=true:=by
   rw[iL,bM]at c;exact cW.1 c.2
  have t:=ct p;have key:∀(l:List aa) (vs:List Int),(∀u∈l,u∈p.l)->vs.length+bE l<=1000000->vs.length<=(bF b9 vs l).2.length/\(∀u∈(bF b9 vs l).1,ay (bF b9 vs l).2.length u)/\bE (bF b9 vs l).1=bE l:=by
   intro l;induction l with
   |nil=>intro vs _ _;rw[bF];exact⟨aA _,fun u hu=>by simp at hu,rfl⟩
   |cons x l w=>
    intro vs hl hn;rw[bE]at hn;have R:=EI x vs;obtain⟨T,M,N⟩:=E x (hl x (aZ ..)) vs (by omega) (hk x (hl x (aZ ..)));obtain⟨c1,j,c3⟩:=w (b8 b9 vs x).2 (fun u hu=>hl u (bH _ hu)) (by omega);rw[bF];dsimp only
    refine⟨by omega,fun u hu=>?_,?_⟩
    ·rcases cD.1 hu with rfl|hu
     ·exact M.mono c1
     ·exact j u hu
    ·rw[bE,bE,N,c3]
  obtain⟨c1,j,c3⟩:=key p.l vs (fun _ h=>h) (by omega);refine⟨c1,⟨?_,fun v e=>?_⟩,by rw[nj,c3,<-t]⟩
  ·rw[iL,bM];refine⟨?_,cW.2 fun u hu=>(j u hu).valid⟩;have g:=c;rw[iL,bM]at g;have hn:=g.1;unfold iK at hn⊢;by_cases h0:p.k=0
   ·have A:cX p=false:=by unfold cX;simp[h0]
    simp[h0]at hn;simp[A,aO,aQ,aL,hn.1]
   ·by_cases D:p.k=2
    ·simp[D]at hn;have A:cX p=true:=by unfold cX;simp[D,hn.2]
     simp[A,aO,aQ,aL,aH,qz,hn.2]
    ·simp[h0,i,D]at hn
  ·rw[lO (by rw[aO];split<;>decide),aH]at e;obtain⟨u,hu,O⟩:=e;exact(j u hu).vars v O
def YN(p:aa):∀(m:Int) (n:Nat),ay n p->0<=m->m<=n->n<=1000000->m<=bS m p/\bS m p<=n/\∀v,dc v p=true->v<bS m p:=by
 refine aa.ind (P:=fun p=>∀(m:Int) (n:Nat),ay n p->0<=m->m<=n->n<=1000000->m<=bS m p/\bS m p<=n/\∀v,dc v p=true->v<bS m p) (fun p w m n h h0 g hn=>?_) p;rw[yp];by_cases b:p.k=1
 ·rw[if_pos b];obtain⟨E,F,_,_⟩:=h.var b;have e:jJ m p.n=if p.n+1>m then p.n+1 else m:=by
   unfold jJ;rw[if_neg (by omega:¬(-1:Int)>p.n),a7 (by omega) (by omega)]
  rw[e];refine⟨by split<;>omega,by split<;>omega,fun v c=>?_⟩;have:=(mS b).1 c;split<;>omega
 ·rw[if_neg b];have key:∀(l:List aa) (m:Int),(∀u∈l,u∈p.l)->0<=m->m<=n->m<=cc m l/\cc m l<=n/\∀u∈l,∀v,dc v u=true->v<cc m l:=by
   intro l;induction l with
   |nil=>intro m _ _ g;rw[cc];exact⟨ei _,g,fun u hu=>by cases hu⟩
   |cons x l i=>
    intro m hl h0 g;obtain⟨G,A,a3⟩:=w x (hl x (aZ ..)) m n (h.dA b (hl x (aZ ..))) h0 g hn;obtain⟨t,j,r⟩:=i (bS m x) (fun u hu=>hl u (bH _ hu)) (by omega) A;rw[cc];refine⟨by omega,j,fun u hu v c=>?_⟩;rcases cD.1 hu with rfl|hu
    ·have:=a3 v c;omega
    ·exact r u hu v c
  obtain⟨t,j,r⟩:=key p.l m (fun _ h=>h) h0 g;refine⟨t,j,fun v c=>?_⟩;obtain⟨u,hu,D⟩:=(lO b).1 c;exact r u hu v D
def NK(b:Nat)(p:aa):∀(n:Nat),ay n p->b+n<=1000000->ay (b+n) (ni b p)/\aw (ni b p)=aw p:=by
 refine aa.ind (P:=fun p=>∀(n:Nat),ay n p->b+n<=1000000->ay (b+n) (ni b p)/\aw (ni b p)=aw p) (fun p E n h F=>?_) p;unfold ni;rw[mT];by_cases c:p.k=1
 ·rw[if_pos c];obtain⟨L,M,_,G⟩:=h.var c;unfold gA;dsimp only
  rw[a7 (by omega) (by omega)];refine⟨ij (by omega) (by omega) (by omega),?_⟩;rw[aa.var,nj,ct p,G]
 ·rw[if_neg c];dsimp only
  have key:∀(l:List aa),(∀u∈l,u∈p.l)->(∀u∈(bF (gA b) () l).1,ay (b+n) u)/\bE (bF (gA b) () l).1=bE l:=by
   intro l;induction l with
   |nil=>intro _;rw[bF];exact⟨fun u hu=>by simp at hu,rfl⟩
   |cons x l i=>
    intro hl;obtain⟨w,A⟩:=E x (hl x (aZ ..)) n (h.dA c (hl x (aZ ..))) F;obtain⟨g,j⟩:=i (fun u hu=>hl u (bH _ hu));unfold ni at w A;rw[bF];dsimp only
    refine⟨fun u hu=>?_,by rw[bE,bE,A,j]⟩;rcases cD.1 hu with rfl|hu
    ·exact w
    ·exact g u hu
  obtain⟨g,j⟩:=key p.l (fun _ h=>h);refine⟨⟨?_,fun v D=>?_⟩,by rw[nj,j,<-ct]⟩
  ·rw[iL,bM];refine⟨?_,cW.2 fun u hu=>(g u hu).valid⟩;have e:=h.valid;rw[iL,bM]at e;have hn:=e.1;unfold iK at hn⊢;by_cases h0:p.k=0
   ·have r:cX p=false:=by unfold cX;simp[h0]
    simp[h0]at hn;simp[r,aO,aQ,aL,hn.1]
   ·by_cases t:p.k=2
    ·simp[t]at hn;have r:cX p=true:=by unfold cX;simp[t,hn.2]
     simp[r,aO,aQ,aL,aH,qz,hn.2]
    ·simp[h0,c,t]at hn
  ·rw[lO (by rw[aO];split<;>decide),aH]at D;obtain⟨u,hu,J⟩:=D;exact(g u hu).vars v J
def rj{t:aa}(c:bZ t=true)(hn:aw t<=1000000):ay (bS 0 (bT t)).toNat (bT t)/\aw (bT t)=aw t/\0<=bS 0 (bT t)/\bS 0 (bT t)<=aw t:=by
 obtain⟨_,g,h⟩:=YM t [] (by simpa using hn) c;have b:=EI t [];simp only[dU,eJ]at b;have e:(b8 b9 [] t).1=bT t:=rfl;rw[e]at g h;obtain⟨i,j,v3⟩:=YN (bT t) 0 _ g (ei _) (by omega) (by omega);refine⟨⟨g.valid,fun v c=>?_⟩,h,i,by omega⟩;have:=(g.vars v c).1;have:=v3 v c;omega

namespace az
def oh(f:az):∀n,(f.more n).sub.length=f.sub.length+n
 |0=>rfl
 |n+1=>by
  show((f.more n).sub++[_]).length=_;rw[bC,oh f n];rfl
def pI(f:az):∀n,(f.more n).bound=f.bound/\(f.more n).vars=f.vars/\(f.more n).e=f.e/\(f.more n).pos=f.pos/\(f.more n).live=f.live
 |0=>⟨rfl,rfl,rfl,rfl,rfl⟩
 |n+1=>pI f n
def nk(f:az):f.fresh.sub.length=f.sub.length+1:=by show(f.sub++[_]).length=_;rw[bC];rfl
end az
end Go.Lamb
namespace Go.Proofs.YtdlkenpilhakfaaGreatDoor
open Go Go.RowKit Go.Lamb
structure cU (f:az):Prop where
 right:bO 100000 f.sub
 dn:∀x∈f.bound,∃i:Nat,i<f.sub.length/\x.ty=aJ i
 var:∀x∈f.vars,∃i:Nat,i<f.sub.length/\x.ty=aJ i
 live:f.e=0->f.live=true
def cU.fresh{f:az}(h:cU f)(c:f.sub.length<1000000):cU f.fresh:=by
 have hl:=f.nk;exact⟨EE (by decide) c h.right,fun x b=>by obtain⟨i,g,e⟩:=h.dn x b;exact⟨i,by omega,e⟩,fun x b=>by obtain⟨i,g,e⟩:=h.var x b;exact⟨i,by omega,e⟩,h.live⟩
def cU.more{f:az}(h:cU f):∀n:Nat,f.sub.length+n<=1000000->cU (f.more n)
 |0,_=>h
 |n+1,hn=>(h.more n (by omega)).fresh (by rw[f.oh];omega)
def cU.push{f:az}(h:cU f){i:Nat}(b:i<f.sub.length)(c:cb):cU (f.push ⟨c,aJ i⟩):=
 ⟨h.right,fun x hx=>by
   rcases cJ.1 hx with hx|hx
   ·exact h.dn x hx
   ·rw[mv.1 hx];exact⟨i,b,rfl⟩,h.var,h.live⟩
def cU.gO{f:az}(h:cU f){i:Nat}(b:i<f.sub.length)(c:cb):cU (f.gO ⟨c,aJ i⟩):=
 ⟨h.right,h.dn,fun x hx=>by
   rcases cJ.1 hx with hx|hx
   ·exact h.var x hx
   ·rw[mv.1 hx];exact⟨i,b,rfl⟩,h.live⟩
def cU.pop{f:az}(h:cU f):cU f.pop:=⟨h.right,fun x b=>h.dn x (List.dropLast_subset _ b),h.var,h.live⟩
def cU.fail{f:az}(h:cU f)(e pos:Int)(b:e≠0):cU (f.fail e pos):=by
 unfold az.fail;split
 ·exact⟨h.right,h.dn,h.var,fun c=>absurd c b⟩
 ·exact h
def cU.YO{f:az}(h:cU f)(j:f.sub.length<=1000000)(h0:f.sub≠[]){a b:aa}(hp:de f.sub.length 100000 (a,b))(p:f.ix a b=true):cU (f.one a b):=by
 obtain⟨_,r,u⟩:=rf h.right j hp;refine⟨r,fun x c=>?_,fun x c=>?_,fun e=>?_⟩
 ·obtain⟨i,t,e⟩:=h.dn x c;exact⟨i,by show i<(dw f.sub a b).2.length;omega,e⟩
 ·obtain⟨i,t,e⟩:=h.var x c;exact⟨i,by show i<(dw f.sub a b).2.length;omega,e⟩
 ·show(f.live&&((dw f.sub a b).1==0&&!f.sub.isEmpty))=true;have g:((dw f.sub a b).1==0)=true:=p;rw[h.live e,g];cases hf:f.sub with
  |nil=>exact absurd hf h0
  |cons x l=>rfl
def cU.YP{f:az}(h:cU f)(j:f.e=0)(p:f.sub.length<=1000000){a b:aa}(hp:de f.sub.length 100000 (a,b))(e pos:Int)(c:e≠0):cU ((f.one a b).fail e pos):=by
 obtain⟨_,r,w⟩:=rf h.right p hp;have:(f.one a b).e=0:=j;unfold az.fail;rw[if_pos this];refine⟨r,fun x g=>?_,fun x g=>?_,fun t=>absurd t c⟩
 ·obtain⟨i,u,e⟩:=h.dn x g;exact⟨i,by show i<(dw f.sub a b).2.length;omega,e⟩
 ·obtain⟨i,u,e⟩:=h.var x g;exact⟨i,by show i<(dw f.sub a b).2.length;omega,e⟩
def NL{f:az}(h:cU f)(c:f.sub.length<=1000000){a b:aa}(hp:de f.sub.length 100000 (a,b)):(f.one a b).sub.length=f.sub.length:=(rf h.right c hp).2.2
def Ar(f:az)(e pos:Int):(f.fail e pos).sub=f.sub/\(f.fail e pos).bound=f.bound/\(f.fail e pos).vars=f.vars:=by unfold az.fail;split<;>exact⟨rfl,rfl,rfl⟩
structure pJ (W:Nat) (f:az) (n:Nat) (r:aa×aa×az):Prop where
 ok:cU r.2.2
 len:r.2.2.sub.length<=f.sub.length+(W+1)*n
 ge:f.sub.length<=r.2.2.sub.length
 bound:r.2.2.bound=f.bound
 vars:r.2.2.vars.length<=f.vars.length+n
 ty:r.2.2.e=0->ay r.2.2.sub.length r.2.1/\aw r.2.1<=W+3*n
 nodes:ao r.1<=2*n
 NM:∀M:Int,f.bound.length+n<=M->f.vars.length+n<=M->bD M r.1=true
def rl{M:Int}(k:Int)(s:cb)(n:Int)(h0:0<=n)(h:n<=M):bD M (.mk k s n [])=true:=ir (.inr ⟨by rw[aL];omega,h⟩) (fun u b=>by cases b)
def pK(k:Int)(s:cb)(n:Int):ao (.mk k s n [])=1:=by rw[iu,bj]
def om(n:Int):aw (aJ n)=1:=by rw[aJ,nj,bE]
def As(name:cb)(l:List av):∀i:Nat,cZ name i l=-1\/∃k:Nat,k<l.length/\cZ name i l=((i+k:Nat):Int):=by
 induction l with
 |nil=>intro i;exact .inl rfl
 |cons x l b=>
  intro i;unfold cZ;rcases b (i+1)with h|⟨k,c,h⟩
  ·rw[h];show(bif x.name==name then(i:Int)else-1)=-1\/_;cases x.name==name
   ·exact .inl rfl
   ·exact .inr ⟨0,by simp,rfl⟩
  ·rw[h];refine .inr ⟨k+1,by simp;omega,?_⟩;show((i+1+k:Nat):Int)=_;congr 1;omega
def NN{l:List av}{k:Nat}(h:k<l.length):l.getD k .none∈l:=by
 rw[cx,aN h,mi];exact List.getElem_mem h
def pJ.same{W:Nat}{f:az}(h:cU f){x u:aa}(b:ao x<=2)(hn:∀M:Int,f.bound.length+1<=M->f.vars.length+1<=M->bD M x=true)(c:ay f.sub.length u/\aw u<=W+3):pJ W f 1 (x,u,f):=
 ⟨h,p9 _ _,aA _,rfl,p9 _ _,fun _=>c,b,hn⟩
def pJ.err{W:Nat}{f:az}(h:cU f)(b:f.e≠0){n:Nat}(hn:1<=n):pJ W f n (.none,.none,f):=
 ⟨h,p9 _ _,aA _,rfl,p9 _ _,fun e=>absurd e b,by show ao .none<=_;rw[aa.none,pK];omega,fun M c _=>rl 0 [] 0 (ei _) (by omega)⟩
def YQ{W:Nat}{g:Sg}(G:∀x∈g.types,aw x.ty<=W)(J:1<=W)(L:W<=100000){f:az}(h:cU f)(N:f.e=0)(p:al)(U:f.sub.length+(W+1)<=999000):pJ W f 1 (gP g f p):=by
 unfold gP;split
 ·rename_i h0;rcases As p.name f.bound 0 with hl|⟨k,c,hl⟩
  ·omega
  ·rw[hl,eJ];obtain⟨i,j,e⟩:=h.dn _ (NN c);unfold ri;refine .same h (by rw[pK];omega) (fun M r _=>rl _ _ _ (by omega) (by omega)) ?_;rw[jX,e];exact⟨ij (by omega) (by omega) (by omega),by rw[om];omega⟩
 ·split
  ·unfold jM;split
   ·have hf:=h.fresh (by omega);have hl:=f.nk;have j:f.sub.length<f.fresh.sub.length:=by omega
    refine⟨hf.gO j p.name,?_,?_,rfl,?_,fun _=>?_,?_,fun M r u=>rl _ _ _ (by omega) (by omega)⟩
    ·show f.fresh.sub.length<=_;omega
    ·show _<=f.fresh.sub.length;omega
    ·show(f.vars++[_]).length<=_;rw[bC];exact aA _
    ·show ay f.fresh.sub.length _/\_;exact⟨ij (by omega) (by omega) (by omega),by rw[om];omega⟩
    ·show ao _<=_;rw[pK];omega
   ·rename_i E;rcases As p.name f.vars 0 with hl|⟨k,c,hl⟩
    ·omega
    ·rw[hl,eJ];obtain⟨i,j,e⟩:=h.var _ (NN c);refine .same h (by rw[pK];omega) (fun M _ u=>rl _ _ _ (by omega) (by omega)) ?_;rw[jX,e];exact⟨ij (by omega) (by omega) (by omega),by rw[om];omega⟩
  ·unfold rh;split
   ·rename_i t b;have w:bZ t=true/\aw t<=W:=by
     unfold jt at b;split at b
     ·rename_i x O;split at b
      ·injection b with b;subst b;exact⟨by assumption,G x (QE O)⟩
      ·cases b
     ·cases b
    obtain⟨P,Q,X,Y⟩:=rj w.1 (by omega);have A:=f.oh (bS 0 (bT t)).toNat;obtain⟨m1,R,Z,m4,m5⟩:=f.pI (bS 0 (bT t)).toNat;obtain⟨s1,T⟩:=NK f.sub.length (bT t) _ P (by omega);refine⟨h.more _ (by omega),?_,?_,m1,?_,fun _=>?_,?_,fun M r u=>rl _ _ _ (ei _) (by omega)⟩
    ·show(f.more _).sub.length<=_;omega
    ·show _<=(f.more _).sub.length;omega
    ·show(f.more _).vars.length<=_;rw[R];omega
    ·show ay (f.more _).sub.length (ni _ _)/\aw (ni _ _)<=_;rw[A];exact⟨s1,by rw[T,Q];omega⟩
    ·show ao _<=_;rw[pK];omega
   ·obtain⟨f1,f2,f3⟩:=Ar f 120 p.pos;have D:(f.fail 120 p.pos).e=120:=by unfold az.fail;rw[if_pos N]
    refine⟨h.fail _ _ (by decide),?_,?_,f2,?_,fun e=>?_,?_,fun M r u=>rl _ _ _ (ei _) (by omega)⟩
    ·show(f.fail _ _).sub.length<=_;rw[f1];omega
    ·show _<=(f.fail _ _).sub.length;rw[f1];exact aA _
    ·show(f.fail _ _).vars.length<=_;rw[f3];omega
    ·have F:(f.fail 120 p.pos).e=0:=e;rw[D]at F;cases F
    ·show ao _<=_;rw[pK];omega
def vY(a b:aa):aw (.arr a b)=1+aw a+aw b:=by rw[aa.arr,nj,bE,bE,bE];omega
def At{n:Nat}{a b:aa}(ha:ay n a)(c:ay n b):ay n (.arr a b):=by
 refine⟨?_,fun v e=>?_⟩
 ·rw[iL];simp[aa.arr,iK,aO,aQ,aL,aH,ha.valid,c.valid]
 ·rw[lO (by rw[aa.arr,aO];decide)]at e;obtain⟨u,g,h⟩:=e;simp[aa.arr,aH]at g;rcases g with rfl|rfl
  ·exact ha.vars v h
  ·exact c.vars v h
def NO(g:Sg)(t:al)(f:az):(f.e≠0/\bI g t f=(.none,.none,f))\/(f.e=0/\t.k=2/\bI g t f=(.mk 2 [] t.n [],.mk 0 [105,110,116] 0 [],f))
  \/(f.e=0/\∃h n b pos,t= .mk 4 h n [b] pos/\bI g t f=og (aJ f.sub.length) (bI g b (f.fresh.push ⟨h,aJ f.sub.length⟩)))
  \/(f.e=0/\∃h n a b pos,t= .mk 3 h n [a,b] pos/\bI g t f=lW pos (bI g a f) (bI g b (bI g a f).2.2))
  \/(f.e=0/\t.k≠2/\bI g t f=gP g f t):=by
 by_cases c:f.e≠0
 ·exact .inl ⟨c,tw g t f c⟩
 replace c:f.e=0:=aeg c;by_cases i:t.k=2
 ·exact .inr (.inl ⟨c,i,EF g t f c i⟩)
 by_cases j:t.k=4/\t.l.length=1
 ·obtain⟨k,h,n,l,pos⟩:=t;simp only[al.k,al.l]at j;obtain⟨rfl,hl⟩:=j
  match l,hl with
  |[b],_=>exact .inr (.inr (.inl ⟨c,h,n,b,pos,rfl,EG g h n b pos f c⟩))
 by_cases p:t.k=3/\t.l.length=2
 ·obtain⟨k,h,n,l,pos⟩:=t;simp only[al.k,al.l]at p;obtain⟨rfl,hl⟩:=p
  match l,hl with
  |[a,b],_=>exact .inr (.inr (.inr (.inl ⟨c,h,n,a,b,pos,rfl,EH g h n a b pos f c⟩)))
 refine .inr (.inr (.inr (.inr ⟨c,i,?_⟩)));unfold bI;split
 ·simp only[al.k,al.l]at i j;simp only[if_neg (not_not_intro c),if_neg i];rw[if_neg (fun e=>j ⟨e,rfl⟩)]
 ·simp only[al.k,al.l]at i p;simp only[if_neg (not_not_intro c),if_neg i];rw[if_neg (fun e=>p ⟨e,rfl⟩)]
 ·simp only[al.k]at i;simp only[if_neg (not_not_intro c),if_neg i]
def YR{M:Int}{x y:aa}(b:0<=M)(c:bD M x=true)(e:bD M y=true):bD M (bP x [y])=true:=qV b c (fun u g=>by rw[mv.1 g];exact e)
def YS(x y:aa):ao (bP x [y])<=ao x+ao y+1:=by
 have h:ao (bP x [y])<=ao x+bj [y]+1:=by
  rw[qU,iu,sX];split
  ·rw[ef x];omega
  ·rw[bj,bj];omega
 rw[bj,bj]at h;omega
def pM{W:Nat}{g:Sg}(hW:∀x∈g.types,aw x.ty<=W)(Y:1<=W)(hW2:W<=10000)(t:al):∀(f:az),cU f->bn t<=20000->f.sub.length+(W+1)*bn t<=999000->pJ W f (bn t) (bI g t f):=by
 refine al.ind (P:=fun t=>∀(f:az),cU f->bn t<=20000->f.sub.length+(W+1)*bn t<=999000->pJ W f (bn t) (bI g t f)) (fun t Z f h hn O=>?_) t;have G:1<=bn t:=by rw[nV];omega
 have hW1':(W+1)*1<=(W+1)*bn t:=Nat.mul_le_mul_left _ G;rcases NO g t f with⟨F,e⟩|⟨F,Q,e⟩|⟨F,w,n,b,pos,rfl,e⟩|⟨F,w,n,a,b,pos,rfl,e⟩|⟨F,Q,e⟩
 ·rw[e];exact .err h F G
 ·rw[e];refine⟨h,by show f.sub.length<=_;omega,aA _,rfl,by show f.vars.length<=_;omega,fun _=>⟨⟨?_,fun v hv=>?_⟩,?_⟩,?_,fun M R _=>ir (.inl rfl) (fun u A=>by cases A)⟩
  ·show bZ (.mk 0 [105,110,116] 0 [])=true;decide
  ·have J:dc v (.mk 0 [105,110,116] 0 [])=true:=hv;rw[lO (by decide)]at J;obtain⟨u,A,_⟩:=J;cases A
  ·show aw (.mk 0 [105,110,116] 0 [])<=_;rw[nj,bE];omega
  ·show ao (.mk 2 [] t.n [])<=_;rw[pK];omega
 ·rw[e];have D:bn (.mk 4 w n [b] pos)=1+bn b:=by rw[bn,cz,cz];omega
  rw[D]at hn O⊢;rw[iC,eK]at O;have hl:=f.nk;have hi:f.sub.length<f.fresh.sub.length:=by omega
  have hf2:=(h.fresh (by omega)).push hi w;have E:=Z b (by simp[al.l]) _ hf2 (by omega) (by show f.fresh.sub.length+_<=_;omega);generalize bI g b (f.fresh.push ⟨w,aJ f.sub.length⟩)=r at E⊢;obtain⟨T,U,r3,r4,r5,r6,r7,r8⟩:=E;have e1:(f.fresh.push ⟨w,aJ f.sub.length⟩).sub.length=f.sub.length+1:=hl;have e2:(f.fresh.push ⟨w,aJ f.sub.length⟩).vars.length=f.vars.length:=rfl;have e3:(f.fresh.push ⟨w,aJ f.sub.length⟩).bound.length=f.bound.length+1:=by show(f.bound++[_]).length=_;rw[bC];rfl
  rw[e1]at U r3;rw[e2]at r5 r8;rw[e3]at r8;refine⟨T.pop,?_,?_,?_,?_,fun h0=>?_,?_,fun M R Q=>?_⟩
  ·show r.2.2.sub.length<=_;rw[iC,eK];omega
  ·show _<=r.2.2.sub.length;omega
  ·show r.2.2.bound.dropLast=_;rw[r4];show(f.bound++[_]).dropLast=_;rw[aeh]
  ·show r.2.2.vars.length<=_;omega
  ·obtain⟨X,q2⟩:=r6 h0;show ay r.2.2.sub.length (.arr (aJ f.sub.length) r.2.1)/\aw (.arr (aJ f.sub.length) r.2.1)<=_;have:=U;exact⟨At (ij (by omega) (by omega) (by omega)) X,by rw[vY,om];omega⟩
  ·show ao (bk r.1)<=_;rw[bk,iu,bj,bj];omega
  ·show bD M (bk r.1)=true;refine ir (.inr ?_) (fun u A=>?_)
   ·rw[bk,aL];omega
   ·unfold bk at A;simp[aH]at A;rw[A];exact r8 M (by omega) (by omega)
 ·rw[e];have D:bn (.mk 3 w n [a,b] pos)=1+bn a+bn b:=by rw[bn,cz,cz,cz];omega
  rw[D]at hn O⊢;rw[iC,iC,eK]at O;have E:=Z a (by simp[al.l]) f h (by omega) (by omega);have i:=fun f':az=>tw g b f';have L:=fun(hk:(bI g a f).2.2.sub.length+(W+1)*bn b<=999000)=>Z b (by simp[al.l]) _ E.ok (by omega) hk;have L:=L (by have:=E.len;omega);have i:=i (bI g a f).2.2;generalize bI g b (bI g a f).2.2=q at L i⊢;generalize bI g a f=r at E L i⊢;obtain⟨T,U,r3,r4,r5,r6,r7,r8⟩:=E;obtain⟨X,q2,q3,q4,q5,q6,q7,q8⟩:=L;rw[r4]at q8;unfold lW;by_cases c:q.2.2.e≠0
  ·rw[if_pos c];refine⟨X,?_,?_,q4.trans r4,?_,fun h0=>absurd h0 c,?_,fun M R _=>rl 0 [] 0 (ei _) (by omega)⟩
   ·show q.2.2.sub.length<=_;rw[iC,iC,eK];omega
   ·show _<=q.2.2.sub.length;omega
   ·show q.2.2.vars.length<=_;omega
   ·show ao .none<=_;rw[aa.none,pK];omega
  ·rw[if_neg c];replace c:q.2.2.e=0:=aeg c;have hr0:r.2.2.e=0:=by
    by_cases h0:r.2.2.e=0
    ·exact h0
    ·have:=i h0;rw[this]at c;exact absurd c h0
   obtain⟨t1,t2⟩:=r6 hr0;obtain⟨t3,t4⟩:=q6 c;have hl:=q.2.2.nk;have hf:=X.fresh (by omega);have hp:de q.2.2.fresh.sub.length 100000 (r.2.1,.arr q.2.1 (aJ q.2.2.sub.length)):=
    ⟨t1.mono (by omega),At (t3.mono (by omega)) (ij (by omega) (by omega) (by omega)),by show aw r.2.1<=_;omega,by show aw (.arr _ _)<=_;rw[vY,om];omega⟩
   have j:=NL hf (by omega) hp;have hne:q.2.2.fresh.sub≠[]:=fun e=>by rw[e]at hl;cases hl
   have hbt:ay q.2.2.fresh.sub.length (aJ q.2.2.sub.length):=ij (by omega) (by omega) (by omega);have hap:=YS r.1 q.1;have N:∀M:Int,(f.bound.length:Int)+((1+bn a+bn b:Nat):Int)<=M->(f.vars.length:Int)+((1+bn a+bn b:Nat):Int)<=M->bD M (bP r.1 [q.1])=true:=fun M R Q=>YR (by omega) (r8 M (by omega) (by omega)) (q8 M (by omega) (by omega));split
   ·rename_i hb;refine⟨hf.YO (by omega) hne hp hb,?_,?_,q4.trans r4,?_,fun _=>?_,?_,N⟩
    ·show(az.one _ _ _).sub.length<=_;rw[j,iC,iC,eK];omega
    ·show _<=(az.one _ _ _).sub.length;rw[j];omega
    ·show q.2.2.vars.length<=_;omega
    ·show ay (az.one _ _ _).sub.length _/\aw _<=_;rw[j,om];exact⟨hbt,by omega⟩
    ·show ao (bP r.1 [q.1])<=_;omega
   ·have hz:q.2.2.fresh.e=0:=c;have p:=Ar (q.2.2.fresh.one r.2.1 (.arr q.2.1 (aJ q.2.2.sub.length))) 121 pos;have hfe:((q.2.2.fresh.one r.2.1 (.arr q.2.1 (aJ q.2.2.sub.length))).fail 121 pos).e=121:=by unfold az.fail;rw[if_pos (show(q.2.2.fresh.one _ _).e=0 from hz)]
    refine⟨hf.YP hz (by omega) hp 121 pos (by decide),?_,?_,?_,?_,fun h0=>?_,?_,N⟩
    ·show(az.fail _ _ _).sub.length<=_;rw[p.1,j,iC,iC,eK];omega
    ·show _<=(az.fail _ _ _).sub.length;rw[p.1,j];omega
    ·show(az.fail _ _ _).bound=_;rw[p.2.1];exact q4.trans r4
    ·show(az.fail _ _ _).vars.length<=_;rw[p.2.2];show q.2.2.vars.length<=_;omega
    ·rw[hfe]at h0;cases h0
    ·show ao (bP r.1 [q.1])<=_;omega
 ·rw[e];have hk:=YQ (W:=W) hW Y (by omega) h F t (by omega);obtain⟨T,U,r3,r4,r5,r6,r7,r8⟩:=hk;exact⟨T,by omega,r3,r4,by omega,fun h0=>⟨(r6 h0).1,by have:=(r6 h0).2;omega⟩,by omega,fun M R Q=>r8 M (by omega) (by omega)⟩
end Go.Proofs.YtdlkenpilhakfaaGreatDoor
namespace Go.Proofs.YtdlkenpilhakfaaGreatDoor
open Go.RowKit Go.Lamb
def EJ:AC:=rsq [oB 2 0,oB 3 1,oA 4 zS4,oK 5 0] (.seq (.seq (drg [.d 6 4 2,.k 7 30 [6],.d 8 4 2,.k 9 261 [8,(zK 0)],.d 10 4 3,.k 11 30 [10],oI 12 .mul 9 11,oI 13 .add 7 12,oI 14 .gtr 13 (zK 4096)] [0,101,2,303,4,505,606,607,608]) (.cond 14 (rsq [oD 15 zS4 [],.s 4 4 15,oK 5 80] .ret) .skip)) (rsq [.d 16 4 2,.d 17 4 3,.k 18 262 [16,(zK 0),17],.s 4 4 18,oK 5 0] .ret))
abbrev YT:List ak:=[.aW 4 4,.tmp 5]
def YU:aq prog 231 2 Tryz.f231 EJ YT:=.auto func231
def tx:AC:=rsq [oB 2 0,oK 4 0] (.seq (rsq [.f 8 0 2,.l 9 8] (.block 0 (rif [oI 11 .eql 9 (zK 3),.m 10 11] 10 (rif [.f 12 2 2,.l 13 12,.m 14 1,oI 15 .eql 13 14] 15 (rsq [oK 4 1] .ret) .skip) (rif [oI 17 .eql 9 (zK 5),.m 16 17] 16 (.ax [.m 18 1,oI 19 .add 18 (zK 1),.m 1 19]) .skip)))) (rsq [oK 5 0] (.seq (rsq [.f 20 3 2,.l 21 20,oL 22 21,oK 23 0] (.block 1 (.loop (rsq [oI 24 .lss 23 22] (.seq (.cond 24 .skip (.exit 1)) (.seq (.block 2 (rsq [oJ 25 4 21 23,.d 26 4 25,oA 7 zS4,.s 4 7 26] (.ax [.m 27 5,.d 28 4 7,.m 29 1,.k 30 261 [28,29],oI 31 .add 27 30,.m 5 31]))) (.ax [oI 32 .add 23 (zK 1),.m 23 32]))))))) (rsq [.m 33 5,.m 4 33] .ret))))
abbrev NP:List ak:=[.tmp 4]
def NQ:aq prog 261 2 Tryz.f261 tx NP:=.auto func261
def c232:AC:=rsq [oB 2 0,oK 4 0] (.seq (rif [.d 5 4 2,.k 6 183 [5],oU 7 .not 6] 7 (rsq [oK 4 0] .ret) .skip) (rsq [.d 8 4 2,.m 9 1,.k 10 261 [8,9],.m 4 10] .ret))
abbrev NR:List ak:=[.tmp 4]
def NS:aq prog 232 2 Tryz.f232 c232 NR:=.auto func232
def EK:AC:=rsq [oB 2 0,oF 4] (rsq [.d 5 4 2,.m 6 1,.k 7 232 [5,6],oI 8 .gtr 7 (zK 0),.m 4 8] .ret)
abbrev NT:List ak:=[.tmp 4]
def NU:aq prog 186 2 Tryz.f186 EK NT:=.auto func186
def c28:AC:=rif [.m 6 0,.n 7 6,.f 8 6 7,.f 9 0 8,.l 10 9,oI 11 .eql 10 (zK 0)] 11 (.ax [.m 12 0,.m 13 1,.m 14 2,oD 15 [zI,zI] [(0,1,13),(1,1,14)],.n 16 12,.f 17 6 16,.s 2 17 15]) .skip
abbrev NV:List ak:=[]
def NW:aq prog 28 3 Tryz.f28 c28 NV:=.auto func28
def NX(n0 p:Nat)(g:Sg)(σ:H)(f:az)(v:V)(y4 y5:V):V->H->Prop:=fun d τ=>d=v/\(∃y3,aS n0 τ p g f y3 y4 y5)/\Kept n0 p σ τ
def gQ(n0 p:Nat)(g:Sg)(σ:H)(f:az)(v:V):V->H->Prop:=fun d τ=>d=v/\(∃y3 y4 y5,aS n0 τ p g f y3 y4 y5)/\Kept n0 p σ τ
section
variable {n0 p:Nat} {σ τ:H} {g:Sg} {f:az} {y3 y4 y5:V}
attribute [local go_sem] aa.v aa.aG aO aQ aL aH aM
def EL(w0:World)(h:aS n0 σ p g f y3 y4 y5)(e pos:Int):DC prog w0 28 [.ptr p 0,I e,I pos] σ (fun d τ=>d= .au []/\aS n0 τ p g (f.fail e pos) y3 y4 y5/\Kept n0 p σ τ):=by
 refine NW.cl rfl (fun c i=>?_);have hp:=h.here;unfold bh at hp;by_cases b:f.e=0
 ·have k0:(f.e==0)=true:=by simp[b]
  have hf:f.fail e pos={f with e:=e,pos:=pos}:=by unfold az.fail;rw[if_pos b]
  rw[hf];have j:=h.put (f':={f with e:=e,pos:=pos}) h.sub h.dn h.var;clear b;apply bl;simp only[go_sem,c28,hp,k0];refine wY ?_;simp only[go_sem,hp];exact W.done ⟨_,_,rfl,.rfl _,rfl,j⟩
 ·have k0:(f.e==0)=false:=by simp[b]
  have hf:f.fail e pos=f:=by unfold az.fail;rw[if_neg b]
  rw[hf];clear b;apply bl;simp only[go_sem,c28,hp,k0];refine wN ?_;simp only[go_sem];exact W.done ⟨_,_,rfl,.rfl _,rfl,h,Kept.refl _ _ _⟩
def YV(w0:World)(h:aS n0 σ p g f y3 y4 y5)(hn:n0<=σ.length)(hl:f.live=true)(t:aa)(hv:bZ t=true)(ht:aw t<=10000)(hs:f.sub.length+aw t<=999999):
  DC prog w0 27 [.ptr p 0,t.v] σ (NX n0 p g σ (f.renew t) (f.ca t).v y4 y5):=by
 refine Ek.cl rfl (fun hok hsz=>?_);obtain⟨n1,n2,n3,n4⟩:=rj hv (by omega);have Y:=fun σ=>zJ w0 t (by omega) σ;have hS:=fun σ=>K2 w0 (bT t) f.sub.length (by omega) σ;have P:=fun σ=>vv w0 (bT t) (bf (Cu _) (by omega)) σ;have Z:(b8 (gA f.sub.length) () (bT t)).1=f.ca t:=rfl;rw[Z]at hS;obtain⟨e,D⟩:∃e:Nat,bS 0 (bT t)=(e:Int):=⟨(bS 0 (bT t)).toNat,by omega⟩;have c:f.renew t=f.more e:=by unfold az.renew;rw[D,jX]
 rw[D]at P n4;rw[c];have hp:=fun L=>hG h.here L;unfold bh at hp;have w:=h.lt;have N:=h.sub hl;generalize f.ca t=u at*
 generalize bT t=s at*
 clear Z c n1 n2 n3 D;rcases N with⟨h0,rfl⟩|⟨b,hb0,rfl,hb,hz⟩
 ·simp only[h0,dU]at hS;have E:=h.app [.cells s.v.af,.cells [I 0,S [],I 0,.ae []],.cells u.v.af];have F:=(Kept.refl n0 p σ).app hn [.cells s.v.af,.cells [I 0,S [],I 0,.ae []],.cells u.v.af];apply bl;simp only[go_sem,tj];(refine db (Y _) ?_;simp only[go_sem]);apply W.aD (aF _ _)
  case hc=>
   (apply ab.aj;simp only[go_sem,hp]);(apply ab.nO (fun τ=>hS τ);(case hg=>rfl);(case hf=>rfl);(case ha=>first|rfl|simp));(apply ab.aj;simp only[go_sem]);exact ab.nil
  apply bl;simp only[go_sem];(refine db (P _) ?_;simp only[go_sem]);refine W.aY (α:=Nat×H×V) (fun x=>x.1<=e/\aS n0 x.2.1 p g (f.more x.1) x.2.2 y4 y5/\Kept n0 p σ x.2.1/\x.2.1[σ.length+1]?=some (.cells [I 0,S [],I 0,.ae []])/\x.2.1[σ.length+2]?=some (.cells u.v.af)) (fun x=>⟨(((((base.put (some 0) (.ptr p 0)).put (some 4) (.ptr (σ.length+1) 0)).put (some 5) (.ptr (σ.length+2) 0)).put (some 16) (I (e:Int))).put (some 17) (I (x.1:Int))),x.2.1⟩) (fun x=>e-x.1) (0,_,_) ⟨be _,E,F,Go.Lamb.bx _ _ 1,Go.Lamb.bx _ _ 2⟩ ?_ (fun x Q=>?_)
  ·exact wV
  obtain⟨i,τ,y⟩:=x;obtain⟨R,G,A,r,J⟩:=Q;dsimp only at R G A r J⊢;by_cases w:i<e
  ·have z:(i:Int)<(e:Int):=by omega
   have hw:aE.wrap ((i:Int)+1)=((i+1:Nat):Int):=by rw[a7]<;>omega
   obtain⟨m1,m2,m3,m4,T⟩:=f.pI i;have O:=f.oh i;obtain⟨M,c1,U,c3⟩:=tv w0 G (bf hn A.len) (by rw[T];exact hl) (by omega);apply bl;simp only[go_sem,z];refine wY ?_;simp only[go_sem];(refine db (c1) ?_;simp only[go_sem,hw]);refine .inv ⟨(i+1,M,_),⟨w,U,A.trans c3,c3.cells _ _ _ (by omega) r,c3.cells _ _ _ (by omega) J⟩,by dsimp only;omega,?_⟩;exact wV
  ·obtain rfl:i=e:=by omega
   have z:¬((i:Int)<(i:Int)):=by omega
   have X:σ.length+1<τ.length:=(aI.1 r).1;have s1:∀B,(τ.set (σ.length+1) B)[σ.length+1]?=some B:=fun B=>bW X;have c:=G.box r (by omega) (.cells u.v.af);have j:=A.set (.cells u.v.af) (a:=σ.length+1) (by omega) (.inr (.inl (by omega)));apply bl;simp only[go_sem,z];refine wN ?_;simp only[go_sem,r,J,s1];exact W.ret ⟨_,_,(by simp only[aX,tk,s1,go_sem];rfl),.rfl _,rfl,⟨_,c⟩,j⟩
 ·clear hb hz;have E:=h.app [.cells s.v.af,.cells [I 0,S [],I 0,.ae []],.cells u.v.af];have F:=(Kept.refl n0 p σ).app hn [.cells s.v.af,.cells [I 0,S [],I 0,.ae []],.cells u.v.af];apply bl;simp only[go_sem,tj];(refine db (Y _) ?_;simp only[go_sem]);apply W.aD (aF _ _)
  case hc=>
   (apply ab.aj;simp only[go_sem,hp]);(apply ab.nO (fun τ=>hS τ);(case hg=>rfl);(case hf=>rfl);(case ha=>first|rfl|simp));(apply ab.aj;simp only[go_sem]);exact ab.nil
  apply bl;simp only[go_sem];(refine db (P _) ?_;simp only[go_sem]);refine W.aY (α:=Nat×H×V) (fun x=>x.1<=e/\aS n0 x.2.1 p g (f.more x.1) x.2.2 y4 y5/\Kept n0 p σ x.2.1/\x.2.1[σ.length+1]?=some (.cells [I 0,S [],I 0,.ae []])/\x.2.1[σ.length+2]?=some (.cells u.v.af)) (fun x=>⟨(((((base.put (some 0) (.ptr p 0)).put (some 4) (.ptr (σ.length+1) 0)).put (some 5) (.ptr (σ.length+2) 0)).put (some 16) (I (e:Int))).put (some 17) (I (x.1:Int))),x.2.1⟩) (fun x=>e-x.1) (0,_,_) ⟨be _,E,F,Go.Lamb.bx _ _ 1,Go.Lamb.bx _ _ 2⟩ ?_ (fun x Q=>?_)
  ·exact wV
  obtain⟨i,τ,y⟩:=x;obtain⟨R,G,A,r,J⟩:=Q;dsimp only at R G A r J⊢;by_cases w:i<e
  ·have z:(i:Int)<(e:Int):=by omega
   have hw:aE.wrap ((i:Int)+1)=((i+1:Nat):Int):=by rw[a7]<;>omega
   obtain⟨m1,m2,m3,m4,T⟩:=f.pI i;have O:=f.oh i;obtain⟨M,c1,U,c3⟩:=tv w0 G (bf hn A.len) (by rw[T];exact hl) (by omega);apply bl;simp only[go_sem,z];refine wY ?_;simp only[go_sem];(refine db (c1) ?_;simp only[go_sem,hw]);refine .inv ⟨(i+1,M,_),⟨w,U,A.trans c3,c3.cells _ _ _ (by omega) r,c3.cells _ _ _ (by omega) J⟩,by dsimp only;omega,?_⟩;exact wV
  ·obtain rfl:i=e:=by omega
   have z:¬((i:Int)<(i:Int)):=by omega
   have X:σ.length+1<τ.length:=(aI.1 r).1;have s1:∀B,(τ.set (σ.length+1) B)[σ.length+1]?=some B:=fun B=>bW X;have c:=G.box r (by omega) (.cells u.v.af);have j:=A.set (.cells u.v.af) (a:=σ.length+1) (by omega) (.inr (.inl (by omega)));apply bl;simp only[go_sem,z];refine wN ?_;simp only[go_sem,r,J,s1];exact W.ret ⟨_,_,(by simp only[aX,tk,s1,go_sem];rfl),.rfl _,rfl,⟨_,c⟩,j⟩
end
section
variable {n0 p:Nat} {σ τ:H} {g:Sg} {f:az} {y3 y4 y5:V}
attribute [local go_sem] aa.v aa.aG aO aQ aL aH aM
def YW(w0:World)(h:aS n0 σ p g f y3 y4 y5)(name:cb)(hc:jt g name=none)(e:H)(hσ:e=σ):
  DC prog w0 122 [.ptr p 0,S name] σ (Same (.au [aa.none.v,B false]) σ):=by
 refine Ev.go rfl (fun c r=>?_);have hp:=fun L=>hG h.here L;unfold bh at hp;have b:=fun σ=>DN w0 g name σ;simp only[Sg.v]at b;unfold jt at hc;cases hf:mU g.types name with
 |none=>
  rw[hf]at b;simp only[mY,Option.getD_none,Option.isSome_none]at b;apply bl;simp only[go_sem,vV,hp];(refine db (b _) ?_;simp only[go_sem,av.none,aa.none]);refine wY ?_;simp only[go_sem,aa.none];exact wF c
 |some x=>
  rw[hf]at b hc;dsimp only at hc;have i:bZ x.ty=false:=by
   cases i:bZ x.ty
   ·rfl
   ·rw[i]at hc;simp at hc
  have j:=fun σ=>qQ w0 x.ty σ;rw[i]at j;simp only[mY,mi,QD]at b;apply bl;simp only[go_sem,vV,hp];(refine db (b _) ?_;simp only[go_sem]);(refine db (j _) ?_;simp only[go_sem]);refine wY ?_;simp only[go_sem,aa.none];exact wF c
def YX(w0:World)(h:aS n0 σ p g f y3 y4 y5)(hn:n0<=σ.length)(hl:f.live=true)(name:cb){t:aa}(hc:jt g name=some t)(G:aw t<=10000)(J:f.sub.length+aw t<=999999):
  DC prog w0 122 [.ptr p 0,S name] σ (NX n0 p g σ (f.renew t) (.au [(f.ca t).v,B true]) y4 y5):=by
 refine Ev.cl rfl (fun M N=>?_);have hp:=fun L=>hG h.here L;unfold bh at hp;have O:=h.lt;have j:=fun σ=>DN w0 g name σ;simp only[Sg.v]at j;unfold jt at hc;cases hf:mU g.types name with
 |none=>rw[hf]at hc;cases hc
 |some x=>
  rw[hf]at j hc;dsimp only at hc;have r:bZ x.ty=true/\x.ty=t:=by
   cases e:bZ x.ty
   ·rw[e]at hc;simp at hc
   ·rw[e]at hc;simp at hc;exact⟨rfl,hc⟩
  obtain⟨e,rfl⟩:=r;have D:=fun σ=>qQ w0 x.ty σ;rw[e]at D;simp only[mY,mi,QD]at j;have w:=h.app [.cells [I 0,S [],I 0,.ae []],.cells x.ty.v.af];have b:=(Kept.refl n0 p σ).app hn [.cells [I 0,S [],I 0,.ae []],.cells x.ty.v.af];have E:=YV w0 w (bf hn b.len) hl x.ty e G J;simp only[aa.v,V.af]at E b;apply bl;simp only[go_sem,vV,hp];(refine db (j _) ?_;simp only[go_sem]);(refine db (D _) ?_;simp only[go_sem]);refine wN ?_;simp only[go_sem];(refine W.call (E) rfl rfl (by first|rfl|simp) ?_)
  rintro d τ ⟨rfl,⟨z3,P⟩,F⟩;have A:τ[σ.length]?=some (.cells [I 0,S [],I 0,.ae []] none):=F.cells _ _ _ (by omega) (Go.Lamb.cQ _ _);have Q:σ.length<τ.length:=(aI.1 A).1;have s1:∀B,(τ.set σ.length B)[σ.length]?=some B:=fun B=>bW Q;have i:=P.box A (by omega) (.cells (f.ca x.ty).v.af);have c:=(b.trans F).set (.cells (f.ca x.ty).v.af) (a:=σ.length) (by omega) (.inr (.inl (aA _)));generalize f.ca x.ty=u at*
  apply bl;simp only[go_sem,A,s1];exact W.ret ⟨_,_,(by simp only[aX,Eu,s1,go_sem];rfl),.rfl _,rfl,⟨_,i⟩,c⟩
end
end Go.Proofs.YtdlkenpilhakfaaGreatDoor
namespace Go.Lamb
open Go Go.RowKit
def NY{l:List av}{i:Nat}(b:i<l.length)(J:List C):dj 4 (gh (i*5+1) (List.map V.c (bX l++J)))=[.c (.int .i64 l[i].ty.k),.c (.str l[i].ty.name),.c (.int .i64 l[i].ty.n),.c (.sl (l[i].ty.l.map aa.cs))]:=by
 have h:=EC b;have hl:=nh l;have e:dj 4 (gh (i*5+1) (bX l++J))=[.int .i64 l[i].ty.k,.str l[i].ty.name,.int .i64 l[i].ty.n,.sl (l[i].ty.l.map aa.cs)]:=by
  rw[<-List.drop_drop,QB (by omega),QB (by rw[xj];omega)];rw[List.take_append_of_le_length (by rw[xj,xj];omega)];have g:dj 4 (gh 1 (dj 5 (gh (i*5) (bX l))))=dj 4 (gh 1 (gh (i*5) (bX l))):=by
   rw[List.drop_take];rw[List.take_take];rfl
  rw[<-g,h];rfl
 rw[<-List.map_drop,<-List.map_take,e];rfl
end Go.Lamb
namespace Go.Proofs.YtdlkenpilhakfaaGreatDoor
open Go.RowKit Go.Lamb
section
variable {n0 p:Nat} {σ τ:H} {g:Sg} {f:az} {y3 y4 y5:V}
def EM{x y z:V}(h:V.wk x y):V.wk (.agg [x,z]) (.agg [y,z]):=yb h (.rfl _)
def vZ(w0:World){y:V}{l:List av}(h:tq n0 σ y l)(hl:l.length<=1000000)(name:cb):DC prog w0 121 [y,S name] σ (Same (I (cZ name 0 l)) σ):=by
 rcases h with⟨rfl,rfl⟩|⟨b,J,_,rfl,c⟩
 ·exact(Ap w0 [] name (by simp) σ).gI (EM (.ae _))
 ·exact YK w0 l name hl b J σ c
def NZ(w0:World){y:V}{l:List av}(h:tu n0 σ y l)(hl:l.length<=1000000)(name:cb):DC prog w0 121 [y,S name] σ (Same (I (cZ name 0 l)) σ):=by
 rcases h with⟨rfl,rfl⟩|⟨b,_,rfl,c⟩
 ·exact(Ap w0 [] name (by simp) σ).gI (EM (.ae _))
 ·exact(Ap w0 l name hl σ).gI (EM (.aC _ _))
attribute [local go_sem] aa.v aa.aG aO aQ aL aH aM
def YY(w0:World)(h:aS n0 σ p g f y3 y4 y5)(hn:n0<=σ.length)(A:f.bound.length<=1000000)(t:al)(i:Nat)(w:i<f.bound.length)(D:cZ t.name 0 f.bound=(i:Int)):
  DC prog w0 70 [.ptr p 0,t.v] σ (gQ n0 p g σ f (.au [(ri f (i:Int)).1.v,(ri f (i:Int)).2.1.v])):=by
 refine tl.cl rfl (fun O P=>?_);have hp:=fun L=>hG h.here L;unfold bh at hp;have Q:=h.lt;have M:=fun a b c=>vZ w0 (h.app [a,b,c]).dn A t.name;rw[D]at M;have R:(i:Int)>=0:=by omega
 have g1:(0:Int)<=(i:Int):=by omega
 have T:(i:Int)<(f.bound.length:Int):=by omega
 have E:aE.wrap ((f.bound.length:Int)-1)=(f.bound.length:Int)-1:=by rw[a7]<;>omega
 have F:aE.wrap ((f.bound.length:Int)-1-(i:Int))=(f.bound.length:Int)-1-(i:Int):=by rw[a7]<;>omega
 rcases h.dn with⟨h0,_⟩|⟨b,J,U,rfl,X⟩
 ·rw[h0]at w;cases w
 have G:=fun L=>hG X L;have j:=NY w J;have Y:=nh f.bound;have r:i*5+1+4<=(bX f.bound).length+J.length:=by omega
 have u:=fun L=>h.app L;have e:=fun L=>(Kept.refl n0 p σ).app hn L;have N:(f.bound.getD i .none).ty=f.bound[i].ty:=by rw[cx,aN w];rfl
 unfold ri;rw[jX,N];generalize f.bound[i]=x at*
 clear N;apply bl;simp only[go_sem,c70,hp];apply W.aD (aF _ _)
 case hc=>
  (apply ab.aj;simp only[go_sem,hp]);(apply ab.call (M _ _ _)<;>try rfl);(apply ab.aj;simp only[go_sem]);exact ab.nil
 apply bl;simp only[go_sem,R];refine wY ?_;simp only[go_sem];apply W.aD (aF _ _)
 case hc=>
  (apply ab.aj;simp only[go_sem,hp,E,F,g1,T,G,j,r,bY]);exact ab.nil
 apply bl;simp only[go_sem];exact W.ret ⟨_,_,(by simp only[aX,pF,go_sem];rfl),aR,rfl,⟨_,_,_,u _⟩,e _⟩
end
section
variable {n0 p:Nat} {σ τ:H} {g:Sg} {f:az} {y3 y4 y5:V}
attribute [local go_sem] aa.v aa.aG aO aQ aL aH aM
def rm{l:List av}{i:Nat}(b:i<l.length):(l.map av.cs)[i]?=some [.str l[i].name,.int .i64 l[i].ty.k,.str l[i].ty.name,.int .i64 l[i].ty.n,.sl (l[i].ty.l.map aa.cs)]:=by
 rw[List.getElem?_map,aN b];rfl
def YZ(w0:World)(h:aS n0 σ p g f y3 y4 y5)(hn:n0<=σ.length)(A:f.bound.length<=1000000)(D:f.vars.length<=1000000)(t:al)(G:t.k=1)(E:cZ t.name 0 f.bound=-1)(i:Nat)(w:i<f.vars.length)(j:cZ t.name 0 f.vars=(i:Int)):
  DC prog w0 70 [.ptr p 0,t.v] σ (gQ n0 p g σ f (.au [(jM f t).1.v,(jM f t).2.1.v])):=by
 refine tl.cl rfl (fun P Q=>?_);have hp:=fun L=>hG h.here L;unfold bh at hp;have T:=h.lt;have U:(t.k==1)=true:=by simp[G]
 have J:=fun a b c=>vZ w0 (h.app [a,b,c]).dn A t.name;rw[E]at J;have M:=fun a b c=>NZ w0 (h.app [a,b,c]).var D t.name;rw[j]at M;have X:¬(-1:Int)>=0:=by decide
 have N:¬(i:Int)<0:=by omega
 have g1:(0:Int)<=(i:Int):=by omega
 have Y:(i:Int)<(f.vars.length:Int):=by omega
 rcases h.var with⟨h0,_⟩|⟨b,Z,rfl,hb⟩
 ·rw[h0]at w;cases w
 have r:=rm w;have u:=fun L=>h.app L;have e:=fun L=>(Kept.refl n0 p σ).app hn L;have O:(f.vars.getD i .none).ty=f.vars[i].ty:=by rw[cx,aN w];rfl
 unfold jM;rw[j,if_neg N,jX,O];have F:(f.vars.map av.cs).length=f.vars.length:=bY _;generalize f.vars[i]=x at*
 generalize hR:f.vars.map av.cs=R at*
 clear O G;apply bl;simp only[go_sem,c70,hp];apply W.aD (aF _ _)
 case hc=>
  (apply ab.aj;simp only[go_sem,hp]);(apply ab.call (J _ _ _)<;>try rfl);(apply ab.aj;simp only[go_sem]);exact ab.nil
 apply bl;simp only[go_sem,X];refine wN ?_;simp only[go_sem,U];refine wY ?_;simp only[go_sem];apply W.aD (aF _ _)
 case hc=>
  (apply ab.aj;simp only[go_sem,hp]);(apply ab.call (M _ _ _)<;>try rfl);(apply ab.aj;simp only[go_sem]);exact ab.nil
 apply bl;simp only[go_sem,N];refine wN ?_;simp only[go_sem];apply W.aD (aF _ _)
 case hc=>
  (apply ab.aj;simp only[go_sem,hp,g1,Y,r,F]);exact ab.nil
 apply bl;simp only[go_sem];exact W.ret ⟨_,_,(by simp only[aX,pF,go_sem];rfl),aR,rfl,⟨_,_,_,u _⟩,e _⟩
end
end Go.Proofs.YtdlkenpilhakfaaGreatDoor
namespace Go.Lamb
open Go Go.RowKit
def W.heap{P:Program}{w0:World}{n0:Nat}{Q:St->Prop}{k:List It}{b:Env}{σ τ:H}(h:σ=τ)(c:W P w0 n0 Q k ⟨b,τ⟩):W P w0 n0 Q k ⟨b,σ⟩:=h▸c
end Go.Lamb
namespace Go.Proofs.YtdlkenpilhakfaaGreatDoor
open Go.RowKit Go.Lamb
section
section
variable {n0 p:Nat} {σ τ:H} {g:Sg} {f:az} {y3 y4 y5:V}
def aS.Y0(h:aS n0 σ p g f y3 y4 y5)(hn:n0<=σ.length)(h0:f.vars=[])(x:av):
  aS n0 ((σ++[ad.spare 50 5 1]).set p (bh g (f.gO x) y3 y4 (.aC σ.length [x.cs]))) p g (f.gO x) y3 y4 (.aC σ.length [x.cs])/\Kept n0 p σ ((σ++[ad.spare 50 5 1]).set p (bh g (f.gO x) y3 y4 (.aC σ.length [x.cs]))):=by
 have b:=h.app [.spare 50 5 1];have e:(f.gO x).vars=[x]:=by show f.vars++[x]=_;rw[h0];rfl
 have c:=b.put (f':=f.gO x) (z3:=y3) (z4:=y4) (z5:=.aC σ.length [x.cs]) b.sub b.dn (.inr ⟨σ.length,hn,by rw[e];rfl,by rw[e];exact Go.Lamb.cQ _ _⟩);exact⟨c.1,((Kept.refl n0 p σ).app hn _).trans c.2⟩
def aS.N0{b:Nat}(h:aS n0 σ p g f y3 y4 (.aC b (f.vars.map av.cs)))(i:n0<=b)(j:σ[b]?=some (.spare 50 5 f.vars.length))(x:av):
  aS n0 ((σ.set b (.spare 50 5 (f.vars.length+1))).set p (bh g (f.gO x) y3 y4 (.aC b (f.vars.map av.cs++[x.cs])))) p g (f.gO x) y3 y4 (.aC b (f.vars.map av.cs++[x.cs]))/\Kept n0 p σ ((σ.set b (.spare 50 5 (f.vars.length+1))).set p (bh g (f.gO x) y3 y4 (.aC b (f.vars.map av.cs++[x.cs])))):=by
 have r:=(aI.1 j).1;have t:=h.lt;have u:b≠p:=by rintro rfl;rw[h.here]at j;cases j
 have D:∀(c:Nat) (B:ad),(∀cs tg,B≠ .cells cs tg)->(∀k,B≠ .spare 50 5 k)->σ[c]?=some B->((σ.set b (.spare 50 5 (f.vars.length+1))).set p (bh g (f.gO x) y3 y4 (.aC b (f.vars.map av.cs++[x.cs]))))[c]?=some B:=fun c B E F hc=>by
  have w:p≠c:=by rintro rfl;rw[h.here]at hc;injection hc with hc;exact E _ _ hc.symm
  have A:b≠c:=by rintro rfl;rw[j]at hc;injection hc with hc;exact F _ hc.symm
  rw[bA w,bA A];exact hc
 have e:(f.gO x).vars=f.vars++[x]:=rfl;refine⟨⟨bW (by rw[bz];exact t),h.le,fun hl=>(h.sub hl).mono fun c d _ hc=>D c _ (fun _ _ e=>by cases e) (fun _ e=>by cases e) hc,h.dn.mono fun c d _ hc=>D c _ (fun _ _ e=>by cases e) (fun _ e=>by cases e) hc,.inr ⟨b,i,by rw[e,List.map_append];rfl,?_⟩⟩,((Kept.refl n0 p σ).set _ i (.inr (.inr fun cs tg e=>by rw[j]at e;cases e))).set _ h.le (.inl rfl)⟩;rw[bA (Ne.symm u),bW r,e,bC];rfl
attribute [local go_sem] aa.v aa.aG aO aQ aL aH aM
def Y1(w0:World)(h:aS n0 σ p g f y3 y4 y5)(hn:n0<=σ.length)(hl:f.live=true)(hs:f.sub.length<=999999)(hbl:f.bound.length<=1000000)(hvl:f.vars.length<=1000000)(t:al)(h1:t.k=1)(hlk:cZ t.name 0 f.bound=-1)(T:cZ t.name 0 f.vars=-1):
  DC prog w0 70 [.ptr p 0,t.v] σ (gQ n0 p g σ (f.fresh.gO ⟨t.name,aJ f.sub.length⟩) (.au [(jM f t).1.v,(jM f t).2.1.v])):=by
 refine tl.cl rfl (fun hok hsz=>?_);have hp:=fun L=>hG h.here L;unfold bh at hp;have hlt:=h.lt;have k1:(t.k==1)=true:=by simp[h1]
 have hL:=fun a b c=>vZ w0 (h.app [a,b,c]).dn hbl t.name;rw[hlk]at hL;have hV:=fun a b c=>NZ w0 (h.app [a,b,c]).var hvl t.name;rw[T]at hV;have gz:¬(-1:Int)>=0:=by decide
 have gy:(-1:Int)<0:=by decide
 have hA0:=h.app [.cells t.v.af,.cells [I 0,S [],I 0,.ae []],.cells [I 0,S [],I 0,.ae []]];have j:=(Kept.refl n0 p σ).app hn [.cells t.v.af,.cells [I 0,S [],I 0,.ae []],.cells [I 0,S [],I 0,.ae []]];obtain⟨τ,c1,P,c3⟩:=tv w0 hA0 (bf hn j.len) hl hs;have hn2:=bf (bf hn j.len) c3.len;have hq:=fun L=>hG P.here L;have u:=P.here;unfold bh at hq u;have w:τ[σ.length]?=some (.cells t.v.af):=c3.cells _ _ _ (by omega) (Go.Lamb.cQ _ _);have U:τ[σ.length+1]?=some (.cells [I 0,S [],I 0,.ae []]):=c3.cells _ _ _ (by omega) (Go.Lamb.bx _ _ 1)
 have F:τ[σ.length+2]?=some (.cells [I 0,S [],I 0,.ae []]):=c3.cells _ _ _ (by omega) (Go.Lamb.bx _ _ 2);have l3:=(aI.1 F).1;have G:=fun L=>hG w L;have hpt:=P.lt;generalize hz3:(V.vec (σ++[ad.cells t.v.af,ad.cells [I 0,S [],I 0,.ae []],ad.cells [I 0,S [],I 0,.ae []]]).length (f.sub.length+1))=z3 at*
 unfold jM;rw[T,if_pos gy];simp only[aJ,aa.v,al.v,V.af]at c1 G w;have J:f.fresh.vars=f.vars:=rfl;rcases P.var with⟨h0,rfl⟩|⟨b,hb0,hy,Q⟩
 ·rw[J]at h0;have hv0:(f.vars.length:Int)=0:=by rw[h0];rfl
  rw[hv0];obtain⟨D,i⟩:=P.Y0 hn2 h0 ⟨t.name,aJ f.sub.length⟩;obtain⟨E,X⟩:∃E,((τ++[ad.spare 50 5 1]).set p (bh g (f.fresh.gO ⟨t.name,aJ f.sub.length⟩) z3 y4 (.aC τ.length [(av.mk t.name (aJ f.sub.length)).cs])))=E:=⟨_,rfl⟩;rw[X]at D i;apply bl;simp only[go_sem,c70,hp];apply W.aD (aF _ _)
  case hc=>
   (apply ab.aj;simp only[go_sem,hp]);(apply ab.call (hL _ _ _)<;>try rfl);(apply ab.aj;simp only[go_sem]);exact ab.nil
  apply bl;simp only[go_sem,gz];refine wN ?_;simp only[go_sem,k1];refine wY ?_;simp only[go_sem];apply W.aD (aF _ _)
  case hc=>
   (apply ab.aj;simp only[go_sem,hp]);(apply ab.call (hV _ _ _)<;>try rfl);(apply ab.aj;simp only[go_sem]);exact ab.nil
  apply bl;simp only[go_sem,gy];refine wY ?_;simp only[go_sem,hp];apply W.aD (aF _ _)
  case hc=>
   (apply ab.aj;simp only[go_sem,hp]);(apply ab.call (c1)<;>try rfl);(apply ab.aj;simp only[go_sem,hp,hq,u,w,G,true_or]);exact ab.nil
  refine W.heap X ?_;have e:=D.here;unfold bh at e;have M:=i.cells _ _ _ (by omega) U;have N:=i.cells _ _ _ (by omega) F;have l4:=(aI.1 M).1;have l5:=(aI.1 N).1;have s1:=fun A=>(bA (l:=E) (a:=A) (by omega:σ.length+1≠p)).trans e;have Y:=fun A=>(bA (l:=E) (a:=A) (by omega:σ.length+1≠σ.length+2)).trans N;have s4:∀A B,((E.set (σ.length+1) A).set (σ.length+2) B)[σ.length+2]?=some B:=fun A B=>bW (by rw[bz];exact l5);have s3:∀A B,((E.set (σ.length+1) A).set (σ.length+2) B)[σ.length+1]?=some A:=fun A B=>by rw[bA (by omega)];exact bW l4
  have f1:=fun A B=>(D.box M (by omega) A).box (Y A) (by omega) B;have f2:=fun A B=>(((j.trans c3).trans i).set A (a:=σ.length+1) (by omega) (.inr (.inl (by omega)))).set B (a:=σ.length+2) (by omega) (.inr (.inl (by omega)));apply bl;simp only[go_sem];apply W.aD (aF _ _)
  case hc=>
   (apply ab.aj;simp only[go_sem,e,s1,Y,M,N,av.cs,aJ]);exact ab.nil
  apply bl;simp only[go_sem];exact W.ret ⟨_,_,(by simp only[aX,pF,s3,s4,go_sem];rfl),aR,rfl,⟨_,_,_,f1 _ _⟩,f2 _ _⟩
 ·rw[J]at Q hy;subst hy;have hb5:b<τ.length:=(aI.1 Q).1;have hbp:b≠p:=by rintro rfl;rw[u]at Q;cases Q
  obtain⟨D,i⟩:=P.N0 hb0 Q ⟨t.name,aJ f.sub.length⟩;obtain⟨E,X⟩:∃E,((τ.set b (ad.spare 50 5 (f.vars.length+1))).set p (bh g (f.fresh.gO ⟨t.name,aJ f.sub.length⟩) z3 y4 (.aC b (f.vars.map av.cs++[(av.mk t.name (aJ f.sub.length)).cs]))))=E:=⟨_,rfl⟩;rw[J]at D i;rw[X]at D i;have O:(f.vars.map av.cs).length=f.vars.length:=bY _;have hr5:(∀r∈f.vars.map av.cs,r.length=5)=True:=eq_true (pH f.vars);have b1:(f.vars.length+1)*72<=140737488355328:=by omega
  have b2:f.vars.length+1<=140737488355328:=by omega
  have b3:f.vars.length<=140737488355327:=by omega
  have hsp:∀B,(τ.set b B)[p]?=τ[p]?:=fun B=>bA hbp;have g1:(0:Int)<=(f.vars.length:Int):=by omega
  have g2:(f.vars.length:Int)<((f.vars.length+1:Nat):Int):=by omega
  have Z:∀r:List C,(f.vars.map av.cs++[r])[f.vars.length]?=some r:=fun r=>by
   rw[da (by omega),O,cw];rfl
  generalize hR:f.vars.map av.cs=R at*
  apply bl;simp only[go_sem,c70,hp];apply W.aD (aF _ _)
  case hc=>
   (apply ab.aj;simp only[go_sem,hp]);(apply ab.call (hL _ _ _)<;>try rfl);(apply ab.aj;simp only[go_sem]);exact ab.nil
  apply bl;simp only[go_sem,gz];refine wN ?_;simp only[go_sem,k1];refine wY ?_;simp only[go_sem];apply W.aD (aF _ _)
  case hc=>
   (apply ab.aj;simp only[go_sem,hp]);(apply ab.call (hV _ _ _)<;>try rfl);(apply ab.aj;simp only[go_sem]);exact ab.nil
  apply bl;simp only[go_sem,gy];refine wY ?_;simp only[go_sem,hp];apply W.aD (aF _ _)
  case hc=>
   (apply ab.aj;simp only[go_sem,hp]);(apply ab.call (c1)<;>try rfl);(apply ab.aj;simp only[go_sem,hp,hq,u,w,G,true_or,Q,O,hr5,b1,b2,b3,hsp]);exact ab.nil
  refine W.heap X ?_;have e:=D.here;unfold bh at e;have M:=i.cells _ _ _ (by omega) U;have N:=i.cells _ _ _ (by omega) F;have l4:=(aI.1 M).1;have l5:=(aI.1 N).1;have s1:=fun A=>(bA (l:=E) (a:=A) (by omega:σ.length+1≠p)).trans e;have Y:=fun A=>(bA (l:=E) (a:=A) (by omega:σ.length+1≠σ.length+2)).trans N;have s4:∀A B,((E.set (σ.length+1) A).set (σ.length+2) B)[σ.length+2]?=some B:=fun A B=>bW (by rw[bz];exact l5);have s3:∀A B,((E.set (σ.length+1) A).set (σ.length+2) B)[σ.length+1]?=some A:=fun A B=>by rw[bA (by omega)];exact bW l4
  have f1:=fun A B=>(D.box M (by omega) A).box (Y A) (by omega) B;have f2:=fun A B=>(((j.trans c3).trans i).set A (a:=σ.length+1) (by omega) (.inr (.inl (by omega)))).set B (a:=σ.length+2) (by omega) (.inr (.inl (by omega)));apply bl;simp only[go_sem];apply W.aD (aF _ _)
  case hc=>
   (apply ab.aj;simp only[go_sem,e,s1,Y,M,N,av.cs,aJ,O,Z,g1,g2]);exact ab.nil
  apply bl;simp only[go_sem];exact W.ret ⟨_,_,(by simp only[aX,pF,s3,s4,go_sem];rfl),aR,rfl,⟨_,_,_,f1 _ _⟩,f2 _ _⟩
end
section
variable {n0 p:Nat} {σ τ:H} {g:Sg} {f:az} {y3 y4 y5:V}
attribute [local go_sem] aa.v aa.aG aO aQ aL aH aM
def Y2(w0:World)(h:aS n0 σ p g f y3 y4 y5)(hn:n0<=σ.length)(hl:f.live=true)(D:f.bound.length<=1000000)(t:al)(Y:t.k≠1)(F:cZ t.name 0 f.bound=-1){u:aa}(hc:jt g t.name=some u)(Z:aw u<=10000)(hs:f.sub.length+aw u<=999999):
  DC prog w0 70 [.ptr p 0,t.v] σ (gQ n0 p g σ (f.renew u) (.au [(aa.mk 0 t.name 0 []).v,(f.ca u).v])):=by
 refine tl.cl rfl (fun hok hsz=>?_);have hp:=fun L=>hG h.here L;unfold bh at hp;have hlt:=h.lt;have k1:(t.k==1)=false:=by simp[Y]
 have P:=fun a b c=>vZ w0 (h.app [a,b,c]).dn D t.name;rw[F]at P;have gz:¬(-1:Int)>=0:=by decide
 have G:=h.app [.cells t.v.af,.cells [I 0,S [],I 0,.ae []],.cells [I 0,S [],I 0,.ae []]];have e:=(Kept.refl n0 p σ).app hn [.cells t.v.af,.cells [I 0,S [],I 0,.ae []],.cells [I 0,S [],I 0,.ae []]];have Q:=YX w0 G (bf hn e.len) hl t.name hc Z hs;simp only[aa.v,al.v,V.af]at Q;apply bl;simp only[go_sem,c70,hp];apply W.aD (aF _ _)
 case hc=>
  (apply ab.aj;simp only[go_sem,hp]);(apply ab.call (P _ _ _)<;>try rfl);(apply ab.aj;simp only[go_sem]);exact ab.nil
 apply bl;simp only[go_sem,gz];refine wN ?_;simp only[go_sem,k1];refine wN ?_;simp only[go_sem];(refine W.call (Q) rfl rfl (by first|rfl|simp) ?_);rintro d τ ⟨rfl,⟨z3,c2⟩,c3⟩;have J:=bf (bf hn e.len) c3.len;have i:τ[σ.length]?=some (.cells t.v.af):=c3.cells _ _ _ (by omega) (Go.Lamb.cQ _ _);have M:τ[σ.length+1]?=some (.cells [I 0,S [],I 0,.ae []]):=c3.cells _ _ _ (by omega) (Go.Lamb.bx _ _ 1);have j:τ[σ.length+2]?=some (.cells [I 0,S [],I 0,.ae []]):=c3.cells _ _ _ (by omega) (Go.Lamb.bx _ _ 2)
 have l3:=(aI.1 j).1;simp only[al.v,V.af]at i;generalize f.ca u=v at*
 obtain⟨E,R⟩:∃E,(τ++[ad.cells v.v.af])=E:=⟨_,rfl⟩;have T:=c2.app [ad.cells v.v.af];have r:=(Kept.refl n0 p τ).app J [ad.cells v.v.af];have w:(τ++[ad.cells v.v.af])[τ.length]?=some (ad.cells v.v.af):=Go.Lamb.cQ _ _;rw[R]at T r w;simp only[aa.v,V.af]at w;have hml:σ.length+2<τ.length:=l3;have N:=r.cells _ _ _ (by omega) M;have O:=r.cells _ _ _ (by omega) j;have U:=r.cells _ _ _ (by omega) i;have l4:=(aI.1 N).1;have l5:=(aI.1 O).1;have s1:=fun A=>(bA (l:=E) (a:=A) (by omega:σ.length+1≠σ.length)).trans U
 have X:=fun A=>(bA (l:=E) (a:=A) (by omega:σ.length+1≠σ.length+2)).trans O;have s8:=fun A=>(bA (l:=E) (a:=A) (by omega:σ.length+1≠τ.length)).trans w;have s4:∀A B,((E.set (σ.length+1) A).set (σ.length+2) B)[σ.length+2]?=some B:=fun A B=>bW (by rw[bz];exact l5);have s3:∀A B,((E.set (σ.length+1) A).set (σ.length+2) B)[σ.length+1]?=some A:=fun A B=>by rw[bA (by omega)];exact bW l4
 have f1:=fun A B=>(T.box N (by omega) A).box (X A) (by omega) B;have f2:=fun A B=>(((e.trans c3).trans r).set A (a:=σ.length+1) (by omega) (.inr (.inl (by omega)))).set B (a:=σ.length+2) (by omega) (.inr (.inl (by omega)));apply bl;simp only[go_sem];refine wN ?_;simp only[go_sem];refine W.heap R ?_;apply W.aD (aF _ _)
 case hc=>
  (apply ab.aj;simp only[go_sem,U,N,O,w,s1,X,s8]);exact ab.nil
 apply bl;simp only[go_sem];exact W.ret ⟨_,_,(by simp only[aX,pF,s3,s4,go_sem];rfl),aR,rfl,⟨_,_,_,f1 _ _⟩,f2 _ _⟩
def Y3(w0:World)(h:aS n0 σ p g f y3 y4 y5)(hn:n0<=σ.length)(r:f.bound.length<=1000000)(t:al)(X:t.k≠1)(u:cZ t.name 0 f.bound=-1)(hc:jt g t.name=none):
  DC prog w0 70 [.ptr p 0,t.v] σ (gQ n0 p g σ (f.fail 120 t.pos) (.au [(aa.mk 0 t.name 0 []).v,aa.none.v])):=by
 refine tl.cl rfl (fun Y Z=>?_);have hp:=fun L=>hG h.here L;unfold bh at hp;have hlt:=h.lt;have k1:(t.k==1)=false:=by simp[X]
 have N:=fun a b c=>vZ w0 (h.app [a,b,c]).dn r t.name;rw[u]at N;have gz:¬(-1:Int)>=0:=by decide
 have w:=h.app [.cells t.v.af,.cells [I 0,S [],I 0,.ae []],.cells [I 0,S [],I 0,.ae []]];have D:=h.app [.cells t.v.af,.cells [I 0,S [],I 0,.ae []],.cells [I 0,S [],I 0,.ae []],.cells [I 0,S [],I 0,.c (.sl [])]];have e:=(Kept.refl n0 p σ).app hn [.cells t.v.af,.cells [I 0,S [],I 0,.ae []],.cells [I 0,S [],I 0,.ae []],.cells [I 0,S [],I 0,.c (.sl [])]];have O:=YW w0 w t.name hc _ rfl;have P:=EL w0 D 120 t.pos;simp only[aa.v,al.v,V.af,aa.none]at O P;apply bl;simp only[go_sem,c70,hp];apply W.aD (aF _ _)
 case hc=>
  (apply ab.aj;simp only[go_sem,hp]);(apply ab.call (N _ _ _)<;>try rfl);(apply ab.aj;simp only[go_sem]);exact ab.nil
 apply bl;simp only[go_sem,gz];refine wN ?_;simp only[go_sem,k1];refine wN ?_;simp only[go_sem];(refine db (O) ?_;simp only[go_sem]);refine wY ?_;simp only[go_sem];(refine W.call (P) rfl rfl (by first|rfl|simp) ?_);rintro d τ ⟨rfl,c2,c3⟩;have hn2:=bf (bf hn e.len) c3.len;have i:τ[σ.length]?=some (.cells t.v.af):=c3.cells _ _ _ (by omega) (Go.Lamb.cQ _ _);have F:τ[σ.length+1]?=some (.cells [I 0,S [],I 0,.ae []]):=c3.cells _ _ _ (by omega) (Go.Lamb.bx _ _ 1);have G:τ[σ.length+2]?=some (.cells [I 0,S [],I 0,.ae []]):=c3.cells _ _ _ (by omega) (Go.Lamb.bx _ _ 2)
 have Q:τ[σ.length+3]?=some (.cells [I 0,S [],I 0,.c (.sl [])]):=c3.cells _ _ _ (by omega) (Go.Lamb.bx _ _ 3);simp only[al.v,V.af]at i;obtain⟨E,R⟩:∃E,τ=E:=⟨_,rfl⟩;subst R;have R:τ=τ:=rfl;have r1:=c2;have j:=Kept.refl n0 p τ;have J:=j.cells _ _ _ (by omega) F;have M:=j.cells _ _ _ (by omega) G;have T:=j.cells _ _ _ (by omega) i;have l4:=(aI.1 J).1;have l5:=(aI.1 M).1;have s1:=fun A=>(bA (l:=τ) (a:=A) (by omega:σ.length+1≠σ.length)).trans T;have U:=fun A=>(bA (l:=τ) (a:=A) (by omega:σ.length+1≠σ.length+2)).trans M
 have s8:=fun A=>(bA (l:=τ) (a:=A) (by omega:σ.length+1≠σ.length+3)).trans Q;have s4:∀A B,((τ.set (σ.length+1) A).set (σ.length+2) B)[σ.length+2]?=some B:=fun A B=>bW (by rw[bz];exact l5);have s3:∀A B,((τ.set (σ.length+1) A).set (σ.length+2) B)[σ.length+1]?=some A:=fun A B=>by rw[bA (by omega)];exact bW l4
 have f1:=fun A B=>(r1.box J (by omega) A).box (U A) (by omega) B;have f2:=fun A B=>(((e.trans c3).trans j).set A (a:=σ.length+1) (by omega) (.inr (.inl (by omega)))).set B (a:=σ.length+2) (by omega) (.inr (.inl (by omega)));apply bl;simp only[go_sem,aa.none];apply W.aD (aF _ _)
 case hc=>
  (apply ab.aj;simp only[go_sem,T,J,M,Q,s1,U,s8]);exact ab.nil
 apply bl;simp only[go_sem];exact W.ret ⟨_,_,(by simp only[aX,pF,s3,s4,go_sem];rfl),aR,rfl,⟨_,_,_,f1 _ _⟩,f2 _ _⟩
def Y4{W:Nat}(w0:World)(A:∀x∈g.types,aw x.ty<=W)(D:W<=10000)(h:aS n0 σ p g f y3 y4 y5)(hn:n0<=σ.length)(hl:f.live=true)(F:f.sub.length+(W+1)<=999000)(b:f.bound.length<=1000000)(r:f.vars.length<=1000000)(t:al):
  DC prog w0 70 [.ptr p 0,t.v] σ (gQ n0 p g σ (gP g f t).2.2 (.au [(gP g f t).1.v,(gP g f t).2.1.v])):=by
 unfold gP;rcases As t.name f.bound 0 with c|⟨i,w,c⟩
 ·rw[if_neg (by rw[c];decide)];by_cases e:t.k=1
  ·rw[if_pos e];rcases As t.name f.vars 0 with j|⟨i,w,j⟩
   ·have:=Y1 w0 h hn hl (by omega) b r t e c j;unfold jM at this⊢;rw[j,if_pos (by decide)]at this⊢;exact this
   ·rw[eJ]at j;have:=YZ w0 h hn b r t e c i w j;unfold jM at this⊢;rw[j,if_neg (by omega)]at this⊢;exact this
  ·rw[if_neg e];unfold rh;cases hc:jt g t.name with
   |none=>exact Y3 w0 h hn b t e c hc
   |some u=>
    have G:aw u<=W:=by
     unfold jt at hc;split at hc
     ·rename_i x E;split at hc
      ·injection hc with hc;subst hc;exact A x (QE E)
      ·cases hc
     ·cases hc
    exact Y2 w0 h hn hl b t e c hc (by omega) (by omega)
 ·rw[eJ]at c;rw[c,if_pos (by omega)];exact YY w0 h hn b t i w c
end
section
variable {n0 p:Nat} {σ τ:H} {g:Sg} {f:az} {y3 y4 y5:V}
def N1(h:aS n0 σ p g f y3 y4 y5)(hn:n0<=σ.length)(h0:f.bound=[])(x:av):
  aS n0 ((σ++[ad.vec 50 5 x.cs]).set p (bh g (f.push x) y3 (.vec σ.length 1) y5)) p g (f.push x) y3 (.vec σ.length 1) y5/\Kept n0 p σ ((σ++[ad.vec 50 5 x.cs]).set p (bh g (f.push x) y3 (.vec σ.length 1) y5)):=by
 have b:=h.app [ad.vec 50 5 x.cs];have e:(f.push x).bound=[x]:=by show f.bound++[x]=_;rw[h0];rfl
 have c:=b.put (f':=f.push x) (z3:=y3) (z4:=.vec σ.length 1) (z5:=y5) b.sub (.inr ⟨σ.length,[],hn,by rw[e];rfl,by rw[e];show _=some (ad.vec _ _ (bX [x]++[]));rw[cd];simp only[bX,ck,cP,dS,kO,cd];exact Go.Lamb.cQ _ _⟩) b.var;exact⟨c.1,((Kept.refl n0 p σ).app hn _).trans c.2⟩
def N2{b:Nat}{J:List C}(h:aS n0 σ p g f y3 (.vec b f.bound.length) y5)(hn:n0<=σ.length)(r:n0<=b)(j:σ[b]?=some (.vec 50 5 (bX f.bound++J)))(x:av):
  aS n0 ((σ.set b .gone++[ad.vec 50 5 (bX f.bound++x.cs)]).set p (bh g (f.push x) y3 (.vec σ.length (f.bound.length+1)) y5)) p g (f.push x) y3 (.vec σ.length (f.bound.length+1)) y5/\Kept n0 p σ ((σ.set b .gone++[ad.vec 50 5 (bX f.bound++x.cs)]).set p (bh g (f.push x) y3 (.vec σ.length (f.bound.length+1)) y5)):=by
 have A:=(aI.1 j).1;have D:=h.lt;have E:b≠p:=by rintro rfl;rw[h.here]at j;cases j
 have w:∀(c:Nat) (B:ad),(∀cs tg,B≠ .cells cs tg)->(∀k,B≠ .vec 50 5 k)->σ[c]?=some B->((σ.set b .gone++[ad.vec 50 5 (bX f.bound++x.cs)]).set p (bh g (f.push x) y3 (.vec σ.length (f.bound.length+1)) y5))[c]?=some B:=fun c B F G hc=>by
  have t:p≠c:=by rintro rfl;rw[h.here]at hc;injection hc with hc;exact F _ _ hc.symm
  have u:b≠c:=by rintro rfl;rw[j]at hc;injection hc with hc;exact G _ hc.symm
  rw[bA t,cr (by rw[bz];exact(aI.1 hc).1),bA u];exact hc
 have e:(f.push x).bound=f.bound++[x]:=rfl;have i:(σ.set b .gone).length=σ.length:=bz ..;refine⟨⟨bW (by rw[bC,i];omega),h.le,fun hl=>(h.sub hl).mono fun c d _ hc=>w c _ (fun _ _ e=>by cases e) (fun _ e=>by cases e) hc,.inr ⟨σ.length,[],hn,by rw[e,bC];rfl,?_⟩,h.var.mono fun c d _ hc=>w c _ (fun _ _ e=>by cases e) (fun _ e=>by cases e) hc⟩,((((Kept.refl n0 p σ).set ad.gone r (.inr (.inr fun cs tg e=>by rw[j]at e;cases e))).app hn _).set _ h.le (.inl rfl))⟩;rw[bA (by omega),da (by rw[i];exact aA _),i,cw,e,NH,cd]
 rfl
def EN{b:Nat}{J:List C}{l:List av}{x:av}(h:aS n0 σ p g f y3 y4 y5)(hl:f.bound=l++[x])(c:n0<=b)(i:σ[b]?=some (.vec 50 5 (bX f.bound++J))):
  aS n0 (σ.set p (bh g f.pop y3 (.vec b l.length) y5)) p g f.pop y3 (.vec b l.length) y5/\Kept n0 p σ (σ.set p (bh g f.pop y3 (.vec b l.length) y5)):=by
 have e:f.pop.bound=l:=by show f.bound.dropLast=l;rw[hl,aeh]
 exact h.put (f':=f.pop) h.sub (.inr ⟨b,x.cs++J,c,by rw[e],by rw[e,i,hl,NH,List.append_assoc]⟩) h.var
end
def N3(v:Int)(b:List aa)(any:Bool):V:=.agg [I v,.c (.sl (b.map aa.cs)),B any]
attribute [local go_sem] aa.v aa.aG aO aQ aL aH aM N3
def v7(w0:World)(t:aa)(σ:H):DC prog w0 118 [I 1,t.v] σ (Same (bk t).v σ):=by
 refine LW.go rfl (fun b c=>?_);have hw:aE.wrap (0+1)=1:=by decide
 apply bl;simp only[go_sem,DQ];refine W.aY (α:=Bool) (fun _=>True) (fun d=>⟨((((base.put (some 3) (.ptr σ.length 0)).put (some 4) (.ptr (σ.length+1) 0)).put (some 6) (I 1)).put (some 7) (I (if d then 1 else 0))),σ++[.cells (if d then(bk t).v.af else t.v.af),.cells [I 0,S [],I 0,.ae []]]⟩) (fun d=>if d then 0 else 1) false trivial ?_ (fun d _=>?_)
 ·simp only[iW,if_false];exact wV
 cases d
 ·simp only[iW,if_false];apply bl;simp only[go_sem];refine wY ?_;simp only[go_sem,hw];refine .inv ⟨true,by simp,?_⟩;simp only[if_true,bk];simp only[go_sem];exact wQ b
 ·simp only[if_true];apply bl;simp only[go_sem];refine wN ?_;simp only[go_sem,bk];exact wF b
end
section
variable {n0 p:Nat} {σ τ:H} {g:Sg} {f:az} {y3 y4 y5:V}
attribute [local go_sem] aa.v aa.aG aO aQ aL aH aM
def Y5(w0:World)(h:aS n0 σ p g f y3 y4 y5)(hn:n0<=σ.length)(hl:f.live=true)(hs:f.sub.length<=999999)(hbl:f.bound.length<=1000000)(G:cb)(n:Int)(b:al)(pos:Int)(r:aa×aa×az)
  (M:r.2.2.bound=f.bound++[⟨G,aJ f.sub.length⟩])
  (Z:∀{E:H} {z3 z4 z5:V},aS n0 E p g (f.fresh.push ⟨G,aJ f.sub.length⟩) z3 z4 z5->n0<=E.length->DC prog w0 25 [.ptr p 0,b.v] E (gQ n0 p g E r.2.2 (.au [r.1.v,r.2.1.v]))):
  DC prog w0 66 [.ptr p 0,(al.mk 4 G n [b] pos).v] σ (gQ n0 p g σ (og (aJ f.sub.length) r).2.2 (.au [(og (aJ f.sub.length) r).1.v,(og (aJ f.sub.length) r).2.1.v])):=by
 refine Nk.cl rfl (fun hok hsz=>?_);have hlt:=h.lt;have hA0:=h.app [.cells (al.mk 4 G n [b] pos).v.af,.cells [I 0,S [],I 0,.ae []],.cells [I 0,S [],I 0,.ae []]];have U:=(Kept.refl n0 p σ).app hn [.cells (al.mk 4 G n [b] pos).v.af,.cells [I 0,S [],I 0,.ae []],.cells [I 0,S [],I 0,.ae []]];obtain⟨τ,c1,c2,c3⟩:=tv w0 hA0 (bf hn U.len) hl hs;have w:n0<=τ.length:=bf (bf hn U.len) c3.len;have hx3:τ[σ.length]?=some (.cells (al.mk 4 G n [b] pos).v.af):=c3.cells _ _ _ (by omega) (Go.Lamb.cQ _ _)
 have hx4:τ[σ.length+1]?=some (.cells [I 0,S [],I 0,.ae []]):=c3.cells _ _ _ (by omega) (Go.Lamb.bx _ _ 1);have hx5:τ[σ.length+2]?=some (.cells [I 0,S [],I 0,.ae []]):=c3.cells _ _ _ (by omega) (Go.Lamb.bx _ _ 2);have l3:=(aI.1 hx5).1;have hpt:=c2.lt;generalize hz3:(V.vec (σ++[ad.cells (al.mk 4 G n [b] pos).v.af,ad.cells [I 0,S [],I 0,.ae []],ad.cells [I 0,S [],I 0,.ae []]]).length (f.sub.length+1))=z3 at*
 have hfb:f.fresh.bound=f.bound:=rfl;generalize aJ f.sub.length=v at*
 simp only[aa.v,al.v,V.af,qq,qs,qt,qu,pos_mk,ck,cP,al.aG]at c1 hx3;obtain⟨E1,N⟩:∃E,(τ++[ad.cells v.v.af])=E:=⟨_,rfl⟩;have q1:=c2.app [ad.cells v.v.af];have q2:=(Kept.refl n0 p τ).app w [ad.cells v.v.af];have x6:(τ++[ad.cells v.v.af])[τ.length]?=some (ad.cells v.v.af):=Go.Lamb.cQ _ _;have hE1l:(τ++[ad.cells v.v.af]).length=τ.length+1:=by simp
 rw[N]at q1 q2 x6 hE1l;have x3:=q2.cells _ _ _ (by omega) hx3;have x4:=q2.cells _ _ _ (by omega) hx4;have x5:=q2.cells _ _ _ (by omega) hx5;have w:n0<=E1.length:=by omega
 have X:=q1.here;have hq:=fun L=>hG q1.here L;unfold bh at X hq;simp only[aa.v,V.af]at x6;rcases q1.dn with⟨h0,hy⟩|⟨b0,J,D,hy,hb⟩
 ·subst hy;rw[hfb]at h0;obtain⟨r1,j⟩:=N1 q1 w h0 ⟨G,v⟩;obtain⟨E2,F⟩:∃E,((E1++[ad.vec 50 5 (av.mk G v).cs]).set p (bh g (f.fresh.push ⟨G,v⟩) z3 (.vec E1.length 1) y5))=E:=⟨_,rfl⟩;rw[F]at r1 j;apply bl;simp only[go_sem,Ac];(refine db (c1) ?_;simp only[go_sem]);refine W.heap N ?_;apply W.aD (aF _ _)
  case hc=>
   iterate 9 (apply ab.quiet (dN.step rfl (by(simp only[go_sem,X,x3,x6]);rfl));case hp=>(intro τ hτ;simp at hτ))
   apply ab.bL
   case h=>exact fh.vec (x:=.t 15) (y:=.t 20) (e:=50) (size:=5) (bytes:=72) (olds:=[]) (news:=[(av.mk G v).cs]) rfl rfl rfl rfl ⟨by simp,(fun r hr=>by cases hr),(fun r hr=>by simp at hr;subst hr;rfl),by simp,by simp⟩
   (apply ab.aj;simp only[go_sem,dS,kO,av.cs,hq]);exact ab.nil
  have e3:=j.cells _ _ _ (by omega) x3;have e4:=j.cells _ _ _ (by omega) x4;have e5:=j.cells _ _ _ (by omega) x5;have e6:=j.cells _ _ _ (by omega) x6;have O:=r1.here;unfold bh at O;have hR:=Z r1 (bf w j.len);refine W.heap F ?_;clear F N;apply bl;simp only[go_sem,e3,O];(refine W.call (hR) rfl rfl (by first|rfl|simp) ?_);rintro d c ⟨rfl,⟨w3,w4,w5,d2⟩,d3⟩;have k3:=d3.cells _ _ _ (by omega) e3;have k4:=d3.cells _ _ _ (by omega) e4;have k5:=d3.cells _ _ _ (by omega) e5;have k6:=d3.cells _ _ _ (by omega) e6
  have hn2:n0<=c.length:=bf (bf w j.len) d3.len;have l6:=(aI.1 k6).1;obtain⟨E3,P⟩:∃E,(c++[ad.cells r.1.v.af,ad.cells r.2.1.v.af])=E:=⟨_,rfl⟩;have d4:=d2.app [ad.cells r.1.v.af,ad.cells r.2.1.v.af];have d5:=(Kept.refl n0 p c).app hn2 [ad.cells r.1.v.af,ad.cells r.2.1.v.af];have j7:(c++[ad.cells r.1.v.af,ad.cells r.2.1.v.af])[c.length]?=some (ad.cells r.1.v.af):=Go.Lamb.cQ _ _;have j8:(c++[ad.cells r.1.v.af,ad.cells r.2.1.v.af])[c.length+1]?=some (ad.cells r.2.1.v.af):=Go.Lamb.bx _ _ 1
  rw[P]at d4 d5 j7 j8;have i:=d4.here;unfold bh at i;have hE3l:=(aI.1 j8).1;rcases d4.dn with⟨D,_⟩|⟨b3,J3,hbn,hw4,hb3⟩
  ·rw[M]at D;simp at D
  subst hw4;have Q:r.2.2.bound.length=f.bound.length+1:=by rw[M,bC];rfl
  obtain⟨p1,R⟩:=EN d4 M hbn hb3;obtain⟨E4,T⟩:∃E,(E3.set p (bh g r.2.2.pop w3 (.vec b3 f.bound.length) w5))=E:=⟨_,rfl⟩;rw[T]at p1 R;rw[Q]at i;have Y:=d5.trans R;have t3:=Y.cells _ _ _ (by omega) k3;have t4:=Y.cells _ _ _ (by omega) k4;have t5:=Y.cells _ _ _ (by omega) k5;have t6:=Y.cells _ _ _ (by omega) k6;have t7:=R.cells _ _ _ (by omega) j7;have t8:=R.cells _ _ _ (by omega) j8;have hw1:aE.wrap ((f.bound.length:Int)+1-1)=(f.bound.length:Int):=by rw[a7]<;>omega
  have hw2:aE.wrap (((f.bound.length+1:Nat):Int)-1)=(f.bound.length:Int):=by rw[a7]<;>omega
  have g1:(0:Int)<=(f.bound.length:Int):=by omega
  have g2:f.bound.length<=f.bound.length+1:=by omega
  have g3:(f.bound.length:Int)<=((f.bound.length+1:Nat):Int):=by omega
  apply bl;simp only[go_sem];refine W.heap P ?_;apply W.aD (aF _ _)
  case hc=>
   (apply ab.aj;simp only[go_sem,i,hw1,hw2,g1,g2,g3]);exact ab.nil
  refine W.heap T ?_;have hL:=fun σ=>v7 w0 r.1 σ;have hAr:=fun σ=>Dt w0 r.2.1 v σ;have l4:=(aI.1 t4).1;have l5:=(aI.1 t5).1;have s5:=fun A=>(bA (l:=E4) (a:=A) (by omega:σ.length+1≠σ.length+2)).trans t5;have s4:∀A B,((E4.set (σ.length+1) A).set (σ.length+2) B)[σ.length+2]?=some B:=fun A B=>bW (by rw[bz];exact l5);have s3:∀A B,((E4.set (σ.length+1) A).set (σ.length+2) B)[σ.length+1]?=some A:=fun A B=>by rw[bA (by omega)];exact bW l4
  have f1:=fun A B=>(p1.box t4 (by omega) A).box (s5 A) (by omega) B;have f2:=fun A B=>(((((((U.trans c3).trans q2).trans j).trans d3).trans d5).trans R).set A (a:=σ.length+1) (by omega) (.inr (.inl (by omega)))).set B (a:=σ.length+2) (by omega) (.inr (.inl (by omega)));simp only[og];generalize bk r.1=z at*;generalize aa.arr v r.2.1=y at*;generalize r.2.1=u at*;generalize r.1=x at*
  apply bl;simp only[go_sem];apply W.aD (aF _ _)
  case hc=>
   (apply ab.aj;simp only[go_sem,t7,t8,t6]);(apply ab.call (hL _)<;>try rfl);(apply ab.aj;simp only[go_sem,t7,t8,t6]);(apply ab.ph (hAr _);(case hg=>rfl);(case hf=>rfl);(case ha=>rfl);(case hw=>((exact aR))));(apply ab.aj;simp only[go_sem,t4,s5]);exact ab.nil
  apply bl;simp only[go_sem];exact W.ret ⟨_,_,(by simp only[aX,Ad,s3,s4,go_sem];rfl),aR,rfl,⟨_,_,_,f1 _ _⟩,f2 _ _⟩
 ·rw[hfb]at hy hb;subst hy;have hbp:b0≠p:=by rintro rfl;rw[X]at hb;cases hb
  obtain⟨r1,j⟩:=N2 (f:=f.fresh) q1 w D hb ⟨G,v⟩;rw[hfb]at r1 j;obtain⟨E2,F⟩:∃E,((E1.set b0 .gone++[ad.vec 50 5 (bX f.bound++(av.mk G v).cs)]).set p (bh g (f.fresh.push ⟨G,v⟩) z3 (.vec E1.length (f.bound.length+1)) y5))=E:=⟨_,rfl⟩;rw[F]at r1 j;have hnl:=nh f.bound;have hle:f.bound.length*5<=(bX f.bound).length+J.length:=by omega
  have htake:dj (f.bound.length*5) (bX f.bound++J)=bX f.bound:=by rw[<-hnl];exact List.take_left
  have b1:(f.bound.length+1)*72<=140737488355328:=by omega
  have b2:f.bound.length+1<=140737488355328:=by omega
  have b3:f.bound.length<=140737488355327:=by omega
  have hsp:∀L,(E1.set b0 .gone++L)[p]?=E1[p]?:=fun L=>by rw[cr (by rw[bz];exact q1.lt),bA hbp]
  apply bl;simp only[go_sem,Ac];(refine db (c1) ?_;simp only[go_sem]);refine W.heap N ?_;apply W.aD (aF _ _)
  case hc=>
   (apply ab.aj;simp only[go_sem,X,x3,x6,hb,hle,htake,b1,b2,b3,hsp,dS,kO,av.cs,ne_eq,not_false_eq_true]);exact ab.nil
  have e3:=j.cells _ _ _ (by omega) x3;have e4:=j.cells _ _ _ (by omega) x4;have e5:=j.cells _ _ _ (by omega) x5;have e6:=j.cells _ _ _ (by omega) x6;have O:=r1.here;unfold bh at O;have hR:=Z r1 (bf w j.len);refine W.heap F ?_;clear F N;apply bl;simp only[go_sem,e3,O];(refine W.call (hR) rfl rfl (by first|rfl|simp) ?_);rintro d c ⟨rfl,⟨w3,w4,w5,d2⟩,d3⟩;have k3:=d3.cells _ _ _ (by omega) e3;have k4:=d3.cells _ _ _ (by omega) e4;have k5:=d3.cells _ _ _ (by omega) e5;have k6:=d3.cells _ _ _ (by omega) e6
  have hn2:n0<=c.length:=bf (bf w j.len) d3.len;have l6:=(aI.1 k6).1;obtain⟨E3,P⟩:∃E,(c++[ad.cells r.1.v.af,ad.cells r.2.1.v.af])=E:=⟨_,rfl⟩;have d4:=d2.app [ad.cells r.1.v.af,ad.cells r.2.1.v.af];have d5:=(Kept.refl n0 p c).app hn2 [ad.cells r.1.v.af,ad.cells r.2.1.v.af];have j7:(c++[ad.cells r.1.v.af,ad.cells r.2.1.v.af])[c.length]?=some (ad.cells r.1.v.af):=Go.Lamb.cQ _ _;have j8:(c++[ad.cells r.1.v.af,ad.cells r.2.1.v.af])[c.length+1]?=some (ad.cells r.2.1.v.af):=Go.Lamb.bx _ _ 1
  rw[P]at d4 d5 j7 j8;have i:=d4.here;unfold bh at i;have hE3l:=(aI.1 j8).1;rcases d4.dn with⟨D,_⟩|⟨b3,J3,hbn,hw4,hb3⟩
  ·rw[M]at D;simp at D
  subst hw4;have Q:r.2.2.bound.length=f.bound.length+1:=by rw[M,bC];rfl
  obtain⟨p1,R⟩:=EN d4 M hbn hb3;obtain⟨E4,T⟩:∃E,(E3.set p (bh g r.2.2.pop w3 (.vec b3 f.bound.length) w5))=E:=⟨_,rfl⟩;rw[T]at p1 R;rw[Q]at i;have Y:=d5.trans R;have t3:=Y.cells _ _ _ (by omega) k3;have t4:=Y.cells _ _ _ (by omega) k4;have t5:=Y.cells _ _ _ (by omega) k5;have t6:=Y.cells _ _ _ (by omega) k6;have t7:=R.cells _ _ _ (by omega) j7;have t8:=R.cells _ _ _ (by omega) j8;have hw1:aE.wrap ((f.bound.length:Int)+1-1)=(f.bound.length:Int):=by rw[a7]<;>omega
  have hw2:aE.wrap (((f.bound.length+1:Nat):Int)-1)=(f.bound.length:Int):=by rw[a7]<;>omega
  have g1:(0:Int)<=(f.bound.length:Int):=by omega
  have g2:f.bound.length<=f.bound.length+1:=by omega
  have g3:(f.bound.length:Int)<=((f.bound.length+1:Nat):Int):=by omega
  apply bl;simp only[go_sem];refine W.heap P ?_;apply W.aD (aF _ _)
  case hc=>
   (apply ab.aj;simp only[go_sem,i,hw1,hw2,g1,g2,g3]);exact ab.nil
  refine W.heap T ?_;have hL:=fun σ=>v7 w0 r.1 σ;have hAr:=fun σ=>Dt w0 r.2.1 v σ;have l4:=(aI.1 t4).1;have l5:=(aI.1 t5).1;have s5:=fun A=>(bA (l:=E4) (a:=A) (by omega:σ.length+1≠σ.length+2)).trans t5;have s4:∀A B,((E4.set (σ.length+1) A).set (σ.length+2) B)[σ.length+2]?=some B:=fun A B=>bW (by rw[bz];exact l5);have s3:∀A B,((E4.set (σ.length+1) A).set (σ.length+2) B)[σ.length+1]?=some A:=fun A B=>by rw[bA (by omega)];exact bW l4
  have f1:=fun A B=>(p1.box t4 (by omega) A).box (s5 A) (by omega) B;have f2:=fun A B=>(((((((U.trans c3).trans q2).trans j).trans d3).trans d5).trans R).set A (a:=σ.length+1) (by omega) (.inr (.inl (by omega)))).set B (a:=σ.length+2) (by omega) (.inr (.inl (by omega)));simp only[og];generalize bk r.1=z at*;generalize aa.arr v r.2.1=y at*;generalize r.2.1=u at*;generalize r.1=x at*
  apply bl;simp only[go_sem];apply W.aD (aF _ _)
  case hc=>
   (apply ab.aj;simp only[go_sem,t7,t8,t6]);(apply ab.call (hL _)<;>try rfl);(apply ab.aj;simp only[go_sem,t7,t8,t6]);(apply ab.ph (hAr _);(case hg=>rfl);(case hf=>rfl);(case ha=>rfl);(case hw=>((exact aR))));(apply ab.aj;simp only[go_sem,t4,s5]);exact ab.nil
  apply bl;simp only[go_sem];exact W.ret ⟨_,_,(by simp only[aX,Ad,s3,s4,go_sem];rfl),aR,rfl,⟨_,_,_,f1 _ _⟩,f2 _ _⟩
end
section
variable {n0 p:Nat} {σ τ:H} {g:Sg} {f:az} {y3 y4 y5:V}
attribute [local go_sem] aa.v aa.aG aO aQ aL aH aM
def Y6(w0:World)(h:aS n0 σ p g f y3 y4 y5)(hn:n0<=σ.length)(he:f.e=0)(nm:cb)(n:Int)(a b:al)(pos:Int)(r q:aa×aa×az)
  (hra:∀{E:H} {z3 z4 z5:V},aS n0 E p g f z3 z4 z5->n0<=E.length->DC prog w0 25 [.ptr p 0,a.v] E (gQ n0 p g E r.2.2 (.au [r.1.v,r.2.1.v])))
  (hrb:∀{E:H} {z3 z4 z5:V},aS n0 E p g r.2.2 z3 z4 z5->n0<=E.length->DC prog w0 25 [.ptr p 0,b.v] E (gQ n0 p g E q.2.2 (.au [q.1.v,q.2.1.v])))
  (hq:q.2.2.e=0->q.2.2.live=true/\q.2.2.sub.length<=999999/\bO 100000 q.2.2.fresh.sub/\de q.2.2.fresh.sub.length 100000 (r.2.1,.arr q.2.1 (aJ q.2.2.sub.length))) (hrl:r.1.l.length<=100000000):
  DC prog w0 25 [.ptr p 0,(al.mk 3 nm n [a,b] pos).v] σ (gQ n0 p g σ (lW pos r q).2.2 (.au [(lW pos r q).1.v,(lW pos r q).2.1.v])):=by
 refine vO.cl rfl (fun hok hsz=>?_);have hlt:=h.lt;have hp:=fun L=>hG h.here L;unfold bh at hp;have k0:(f.e !=0)=false:=by simp[he]
 have hA0:=h.app [.cells [.c (.int .i64 3),.c (.str nm),.c (.int .i64 n),.c (.sl [[.int .i64 a.k,.str a.name,.int .i64 a.n,.sl (a.l.map al.cs),.int .i64 a.pos],[.int .i64 b.k,.str b.name,.int .i64 b.n,.sl (b.l.map al.cs),.int .i64 b.pos]]),.c (.int .i64 pos)],.cells [I 0,S [],I 0,.ae []],.cells [I 0,S [],I 0,.ae []]];have R:=(Kept.refl n0 p σ).app hn [.cells [.c (.int .i64 3),.c (.str nm),.c (.int .i64 n),.c (.sl [[.int .i64 a.k,.str a.name,.int .i64 a.n,.sl (a.l.map al.cs),.int .i64 a.pos],[.int .i64 b.k,.str b.name,.int .i64 b.n,.sl (b.l.map al.cs),.int .i64 b.pos]]),.c (.int .i64 pos)],.cells [I 0,S [],I 0,.ae []],.cells [I 0,S [],I 0,.ae []]]
 have hR1:=hra hA0 (bf hn R.len);simp only[aa.v,al.v,V.af,qq,qs,qt,qu,pos_mk,ck,cP,al.aG]at hR1;apply bl;simp only[go_sem,qX,hp,k0];refine wN ?_;simp only[go_sem];refine wN ?_;simp only[go_sem];refine wN ?_;simp only[go_sem];refine wY ?_;simp only[go_sem];(refine W.call (hR1) rfl rfl (by first|rfl|simp) ?_);rintro d i ⟨rfl,⟨u3,u4,u5,c2⟩,c3⟩;have hn1:n0<=i.length:=bf (bf hn R.len) c3.len;have a3:i[σ.length]?=some (.cells [.c (.int .i64 3),.c (.str nm),.c (.int .i64 n),.c (.sl [[.int .i64 a.k,.str a.name,.int .i64 a.n,.sl (a.l.map al.cs),.int .i64 a.pos],[.int .i64 b.k,.str b.name,.int .i64 b.n,.sl (b.l.map al.cs),.int .i64 b.pos]]),.c (.int .i64 pos)]):=c3.cells _ _ _ (by omega) (Go.Lamb.cQ _ _)
 have a4:i[σ.length+1]?=some (.cells [I 0,S [],I 0,.ae []]):=c3.cells _ _ _ (by omega) (Go.Lamb.bx _ _ 1);have a5:i[σ.length+2]?=some (.cells [I 0,S [],I 0,.ae []]):=c3.cells _ _ _ (by omega) (Go.Lamb.bx _ _ 2);have l3:=(aI.1 a5).1;have hpt1:=c2.lt;obtain⟨E1,T⟩:∃E,(i++[ad.cells r.1.v.af,ad.cells r.2.1.v.af])=E:=⟨_,rfl⟩;have d4:=c2.app [ad.cells r.1.v.af,ad.cells r.2.1.v.af];have d5:=(Kept.refl n0 p i).app hn1 [ad.cells r.1.v.af,ad.cells r.2.1.v.af];have b6:(i++[ad.cells r.1.v.af,ad.cells r.2.1.v.af])[i.length]?=some (ad.cells r.1.v.af):=Go.Lamb.cQ _ _
 have b7:(i++[ad.cells r.1.v.af,ad.cells r.2.1.v.af])[i.length+1]?=some (ad.cells r.2.1.v.af):=Go.Lamb.bx _ _ 1;rw[T]at d4 d5 b6 b7;have b3:=d5.cells _ _ _ (by omega) a3;have b4:=d5.cells _ _ _ (by omega) a4;have b5:=d5.cells _ _ _ (by omega) a5;have hn2:n0<=E1.length:=bf hn1 d5.len;have hR2:=hrb d4 hn2;simp only[aa.v,al.v,V.af,qq,qs,qt,qu,pos_mk,ck,cP,al.aG]at hR2;have a3L:=fun L=>hG a3 L;apply bl;simp only[go_sem,a3L];refine W.heap T ?_;clear T;(refine W.call (hR2) rfl rfl (by first|rfl|simp) ?_)
 rintro d j ⟨rfl,⟨v3,v4,v5,e2⟩,U⟩;have hn3:n0<=j.length:=bf hn2 U.len;have g3:=U.cells _ _ _ (by omega) b3;have g4:=U.cells _ _ _ (by omega) b4;have g5:=U.cells _ _ _ (by omega) b5;have g6:=U.cells _ _ _ (by omega) b6;have g7:=U.cells _ _ _ (by omega) b7;have l7:=(aI.1 g7).1;have hpt2:=e2.lt;obtain⟨E2,X⟩:∃E,(j++[ad.cells q.1.v.af,ad.cells q.2.1.v.af])=E:=⟨_,rfl⟩;have e4:=e2.app [ad.cells q.1.v.af,ad.cells q.2.1.v.af];have N:=(Kept.refl n0 p j).app hn3 [ad.cells q.1.v.af,ad.cells q.2.1.v.af]
 have i8:(j++[ad.cells q.1.v.af,ad.cells q.2.1.v.af])[j.length]?=some (ad.cells q.1.v.af):=Go.Lamb.cQ _ _;have i9:(j++[ad.cells q.1.v.af,ad.cells q.2.1.v.af])[j.length+1]?=some (ad.cells q.2.1.v.af):=Go.Lamb.bx _ _ 1;rw[X]at e4 N i8 i9;have i3:=N.cells _ _ _ (by omega) g3;have i4:=N.cells _ _ _ (by omega) g4;have i5:=N.cells _ _ _ (by omega) g5;have i6:=N.cells _ _ _ (by omega) g6;have i7:=N.cells _ _ _ (by omega) g7;have l9:=(aI.1 i9).1;have hn4:n0<=E2.length:=bf hn3 N.len;have hE20:=e4.here
 unfold bh at hE20;have O:=((((R.trans c3).trans d5).trans U).trans N);have w:=fun L=>hG e2.here L;unfold bh at w;unfold lW;by_cases D:q.2.2.e=0
 ·rw[if_neg (not_not_intro D)];have k1:(q.2.2.e !=0)=false:=by simp[D]
  obtain⟨q1,q2,q3,q4⟩:=hq D;obtain⟨t,m1,m2,G⟩:=tv w0 e4 hn4 q1 q2;have hn5:n0<=t.length:=bf hn4 G.len;generalize hz3:(V.vec E2.length (q.2.2.sub.length+1))=z3 at*
  have j3:=G.cells _ _ _ (by omega) i3;have j4:=G.cells _ _ _ (by omega) i4;have j5:=G.cells _ _ _ (by omega) i5;have j6:=G.cells _ _ _ (by omega) i6;have j7:=G.cells _ _ _ (by omega) i7;have j8:=G.cells _ _ _ (by omega) i8;have j9:=G.cells _ _ _ (by omega) i9;have l9':=(aI.1 j9).1;have hql:q.2.2.fresh.sub.length=q.2.2.sub.length+1:=q.2.2.nk;have hfl:q.2.2.fresh.live=true:=q1;generalize hV:aJ q.2.2.sub.length=v at*;obtain⟨E3,hE3⟩:∃E,(t++[ad.cells v.v.af])=E:=⟨_,rfl⟩;have m4:=m2.app [ad.cells v.v.af]
  have F:=(Kept.refl n0 p t).app hn5 [ad.cells v.v.af];have u:(t++[ad.cells v.v.af])[t.length]?=some (ad.cells v.v.af):=Go.Lamb.cQ _ _;rw[hE3]at m4 F u;have n3:=F.cells _ _ _ (by omega) j3;have n4:=F.cells _ _ _ (by omega) j4;have n5:=F.cells _ _ _ (by omega) j5;have n6:=F.cells _ _ _ (by omega) j6;have n7:=F.cells _ _ _ (by omega) j7;have n8:=F.cells _ _ _ (by omega) j8;have n9:=F.cells _ _ _ (by omega) j9;have l10:=(aI.1 u).1;have hn6:n0<=E3.length:=bf hn5 F.len;obtain⟨J,w3,o1,o2,Y⟩:=NI w0 m4 hn6 hfl (by omega) q3 q4
  have hAr:=fun σ=>Dt w0 v q.2.1 σ;have Z:=fun σ=>vA w0 r.1 [q.1] (by simp only[List.length_cons,dU];omega) σ;simp only[ck,cP,aa.aG]at Z;have x3:=Y.cells _ _ _ (by omega) n3;have x4:=Y.cells _ _ _ (by omega) n4;have x5:=Y.cells _ _ _ (by omega) n5;have x6:=Y.cells _ _ _ (by omega) n6;have x8:=Y.cells _ _ _ (by omega) n8;have x10:=Y.cells _ _ _ (by omega) u;have P:=(((O.trans G).trans F).trans Y);simp only[aa.v,V.af]at m1 o1 n7 n9 u x6 x8 x10;generalize aa.arr q.2.1 v=ar at*
  apply bl;simp only[go_sem,w,k1];refine W.heap X ?_;refine wN ?_;simp only[go_sem];(refine db (m1) ?_;simp only[go_sem]);refine W.heap hE3 ?_;apply W.aD (aF _ _)
  case hc=>
   (apply ab.aj;simp only[go_sem,n9,u,n7]);(apply ab.ph (hAr _);(case hg=>rfl);(case hf=>rfl);(case ha=>rfl);(case hw=>((exact aR))));(apply ab.aj;simp only[go_sem,n9,u,n7]);(apply ab.call (o1)<;>try rfl);(apply ab.aj;simp only[go_sem]);exact ab.nil
  cases hob:q.2.2.fresh.ix r.2.1 ar
  ·rw[if_neg (by simp)];have hF:=EL w0 o2 121 pos;apply bl;simp only[go_sem];refine wY ?_;simp only[go_sem,x3];(refine W.call (hF) rfl rfl (by first|rfl|simp) ?_);rintro d M ⟨rfl,p2,p3⟩;have t4:=p3.cells _ _ _ (by omega) x4;have t5:=p3.cells _ _ _ (by omega) x5;have t6:=p3.cells _ _ _ (by omega) x6;have t8:=p3.cells _ _ _ (by omega) x8;have t10:=p3.cells _ _ _ (by omega) x10;apply bl;simp only[go_sem];have l4:=(aI.1 t4).1;have l5:=(aI.1 t5).1;have Q:=fun A=>(bA (l:=M) (a:=A) (by omega:σ.length+1≠σ.length+2)).trans t5
   have s4:∀A B,((M.set (σ.length+1) A).set (σ.length+2) B)[σ.length+2]?=some B:=fun A B=>bW (by rw[bz];exact l5);have s3:∀A B,((M.set (σ.length+1) A).set (σ.length+2) B)[σ.length+1]?=some A:=fun A B=>by rw[bA (by omega)];exact bW l4
   have f1:=fun A B=>((p2).box t4 (by omega) A).box (Q A) (by omega) B;have f2:=fun A B=>((P.trans p3).set A (a:=σ.length+1) (by omega) (.inr (.inl (by omega)))).set B (a:=σ.length+2) (by omega) (.inr (.inl (by omega)));have s10:=fun A=>(bA (l:=M) (a:=A) (by omega:σ.length+1≠t.length)).trans t10;generalize bP r.1 [q.1]=z at*;apply W.aD (aF _ _)
   case hc=>
    (apply ab.aj;simp only[go_sem,t6,t8,t10]);(apply ab.ph (Z _);(case hg=>rfl);(case hf=>rfl);(case ha=>rfl);(case hw=>((exact aR))));(apply ab.aj;simp only[go_sem,t4,t10,s10,Q]);exact ab.nil
   apply bl;simp only[go_sem];exact W.ret ⟨_,_,(by simp only[aX,od,s3,s4,go_sem];rfl),aR,rfl,⟨_,_,_,f1 _ _⟩,f2 _ _⟩
  ·rw[if_pos rfl];apply bl;simp only[go_sem];refine W.no rfl ?_;have t4:=x4;have t5:=x5;have t6:=x6;have t8:=x8;have t10:=x10;apply bl;simp only[go_sem];have l4:=(aI.1 t4).1;have l5:=(aI.1 t5).1;have Q:=fun A=>(bA (l:=J) (a:=A) (by omega:σ.length+1≠σ.length+2)).trans t5;have s4:∀A B,((J.set (σ.length+1) A).set (σ.length+2) B)[σ.length+2]?=some B:=fun A B=>bW (by rw[bz];exact l5);have s3:∀A B,((J.set (σ.length+1) A).set (σ.length+2) B)[σ.length+1]?=some A:=fun A B=>by rw[bA (by omega)];exact bW l4
   have f1:=fun A B=>((o2).box t4 (by omega) A).box (Q A) (by omega) B;have f2:=fun A B=>((P).set A (a:=σ.length+1) (by omega) (.inr (.inl (by omega)))).set B (a:=σ.length+2) (by omega) (.inr (.inl (by omega)));have s10:=fun A=>(bA (l:=J) (a:=A) (by omega:σ.length+1≠t.length)).trans t10;generalize bP r.1 [q.1]=z at*;apply W.aD (aF _ _)
   case hc=>
    (apply ab.aj;simp only[go_sem,t6,t8,t10]);(apply ab.ph (Z _);(case hg=>rfl);(case hf=>rfl);(case ha=>rfl);(case hw=>((exact aR))));(apply ab.aj;simp only[go_sem,t4,t10,s10,Q]);exact ab.nil
   apply bl;simp only[go_sem];exact W.ret ⟨_,_,(by simp only[aX,od,s3,s4,go_sem];rfl),aR,rfl,⟨_,_,_,f1 _ _⟩,f2 _ _⟩
 ·rw[if_pos D];have k1:(q.2.2.e !=0)=true:=by simp[D]
  have t4:=i4;have t5:=i5;have l4:=(aI.1 t4).1;have l5:=(aI.1 t5).1;have Q:=fun A=>(bA (l:=E2) (a:=A) (by omega:σ.length+1≠σ.length+2)).trans t5;have s4:∀A B,((E2.set (σ.length+1) A).set (σ.length+2) B)[σ.length+2]?=some B:=fun A B=>bW (by rw[bz];exact l5);have s3:∀A B,((E2.set (σ.length+1) A).set (σ.length+2) B)[σ.length+1]?=some A:=fun A B=>by rw[bA (by omega)];exact bW l4
  have f1:=fun A B=>(e4.box t4 (by omega) A).box (Q A) (by omega) B;have f2:=fun A B=>(O.set A (a:=σ.length+1) (by omega) (.inr (.inl (by omega)))).set B (a:=σ.length+2) (by omega) (.inr (.inl (by omega)));apply bl;simp only[go_sem,w,k1];refine W.heap X ?_;refine wY ?_;simp only[go_sem,t4,Q];exact W.ret ⟨_,_,(by simp only[aX,od,s3,s4,go_sem];rfl),aR,rfl,⟨_,_,_,f1 _ _⟩,f2 _ _⟩
end
end Go.Proofs.YtdlkenpilhakfaaGreatDoor
namespace Go.Proofs.YtdlkenpilhakfaaGreatDoor
open Go Go.RowKit Go.Lamb
def EO{f:aa->Int->aa}{k:Int}{t:aa}(g:aP t=true)(c:t.k=6):bq f k t=bP (bq f k (t.l.headD .none)) (t.l.tail.map (bq f k)):=by
 obtain⟨i,j,a,b,l,hl,ha⟩:=fD g c;rw[iQ,if_neg (by omega),if_pos c,hl,oX,List.tail_cons,ck,ck,dC];by_cases e:(bq f k a).k=6
 ·rw[if_pos ⟨c,by simp,by simpa using e,by rw[hl];simpa using ha⟩];rfl
 ·rw[if_neg (fun h=>e (by simpa using h.2.2.1)),c,i,j,Ma e]
def EP{f:aa->Int->aa}{k:Int}{t:aa}(b:aP t=true)(h5:t.k=5):bq f k t= .mk 5 [] 0 (t.l.map (bq f (k+1))):=by
 obtain⟨c,e,_⟩:=nZ b h5;rw[iQ,if_pos h5,dC,if_neg (fun h=>by have:=h.1;omega),h5,c,e]
def ER{f:aa->Int->aa}{k:Int}{t:aa}(h5:t.k≠5)(b:t.k≠6):bq f k t=f t k:=by
 rw[iQ,if_neg h5,if_neg b]
def Y7{Q:aa->Prop}(A:∀t,Q t->aP t=true/\∀u∈t.l,Q u){f:aa->Int->aa}{k0 D:Int}(hf:∀u (d:Int),k0<=d->d<=D->Q u->u.k≠5->u.k≠6->aP (f u d)=true)(t:aa):∀k,k0<=k->k+ao t<=D->Q t->aP (bq f k t)=true:=by
 refine aa.ind (P:=fun t=>∀k,k0<=k->k+ao t<=D->Q t->aP (bq f k t)=true) (fun t j k p F w=>?_) t;obtain⟨h,c⟩:=A t w;have e:∀x∈t.l,k+ao x<=D/\k+1+ao x<=D:=fun x r=>by have:=fz r;omega
 have hp:=pD t;by_cases h5:t.k=5
 ·rw[EP h h5];obtain⟨_,_,b,hl⟩:=nZ h h5;rw[hl];exact qT (j b (by rw[hl];simp) (k+1) (by omega) (e b (by rw[hl];simp)).2 (c b (by rw[hl];simp)))
 ·by_cases i:t.k=6
  ·rw[EO h i];obtain⟨_,_,a,b,l,hl,ha⟩:=fD h i;rw[hl];refine sW (j a (by rw[hl];simp) k p (e a (by rw[hl];simp)).1 (c a (by rw[hl];simp))) (fun u E=>?_);obtain⟨x,r,rfl⟩:=eU.1 E;have g:x∈t.l:=by rw[hl];exact bH _ r
   exact j x g k p (e x g).1 (c x g)
  ·rw[ER h5 i];exact hf t k p (by omega) w h5 i
def Nr(m:Int)(t:aa):Prop:=aP t=true/\bD m t=true
def Nr.jN(m:Int):∀t,Nr m t->aP t=true/\∀u∈t.l,Nr m u:=fun t h=>⟨h.1,fun u b=>⟨fA h.1 u b,fW h.2 u b⟩⟩
def ES{u:aa}(b:aP u=true)(c:u.k=3):u.name=[]/\u.l=[]/\0<=u.n/\u.n<=4611686018427387904:=by
 have hn:=vx b;unfold cV at hn;simp[c]at hn;exact⟨hn.1.2,hn.2,hn.1.1.1,hn.1.1.2⟩
def Y8{s:aa}{m b:Int}(e:Nr m s)(c:0<=m)(r:m+b<=4611686018427387904){u:aa}{d:Int}(hd:0<=d)(t:d<=b)(g:aP u=true):aP (cB 0 s u d)=true:=by
 unfold cB;split
 ·exact g
 ·rename_i h;have i:u.k=3:=by omega
  obtain⟨w,j,A,D⟩:=ES g i;split
  ·exact(Mc (ei _) hd c (by omega) _ 0 (ei _) e.1 e.2).1
  ·refine vy ?_ (fun x p=>by rw[aH,j]at p;cases p);simp[cV,aO,aL,aH,aQ,i,w,j];omega
def Y9{Q:aa->Prop}(E:∀t,Q t->aP t=true/\∀u∈t.l,Q u){f:aa->Int->aa}{k0 D M:Int}(F:0<=M)(hf:∀u (d:Int),k0<=d->d<=D->Q u->u.k≠5->u.k≠6->bD M (f u d)=true)(t:aa):∀k,k0<=k->k+ao t<=D->Q t->bD M (bq f k t)=true:=by
 refine aa.ind (P:=fun t=>∀k,k0<=k->k+ao t<=D->Q t->bD M (bq f k t)=true) (fun t p k r G A=>?_) t;obtain⟨w,c⟩:=E t A;have e:∀x∈t.l,k+ao x<=D/\k+1+ao x<=D:=fun x g=>by have:=fz g;omega
 have hp:=pD t;by_cases h5:t.k=5
 ·rw[EP w h5];refine ir (.inr (by simp[aL];omega)) (fun u i=>?_);rw[aH]at i;obtain⟨x,g,rfl⟩:=eU.1 i;exact p x g (k+1) (by omega) (e x g).2 (c x g)
 ·by_cases j:t.k=6
  ·rw[EO w j];obtain⟨_,_,a,b,l,hl,ha⟩:=fD w j;rw[hl];refine qV F (p a (by rw[hl];simp) k r (e a (by rw[hl];simp)).1 (c a (by rw[hl];simp))) (fun u i=>?_);obtain⟨x,g,rfl⟩:=eU.1 i;have h:x∈t.l:=by rw[hl];exact bH _ g
   exact p x h k r (e x h).1 (c x h)
  ·rw[ER h5 j];exact hf t k r (by omega) A h5 j
mutual
def bV(i:Int):aa->Nat
 | .mk k _ n l=>if k=3/\n=i then 1 else cH (if k=5 then i+1 else i) l
def cH(i:Int):List aa->Nat
 |[]=>0
 |x::l=>bV i x+cH i l
end
mutual
def cn:aa->Nat
 | .mk k _ _ l=>1+(if k=5\/k=6 then dJ l else 0)
def dJ:List aa->Nat
 |[]=>0
 |x::l=>cn x+dJ l
end
def v8(i:Int)(t:aa):bV i t=if t.k=3/\t.n=i then 1 else cH (if t.k=5 then i+1 else i) t.l:=by cases t;rw[bV];rfl
def Au(t:aa):cn t=1+(if t.k=5\/t.k=6 then dJ t.l else 0):=by cases t;rw[cn];rfl
def N4(i:Int):∀(a b:List aa),cH i (a++b)=cH i a+cH i b
 |[],b=>by rw[cH];simp
 |x::a,b=>by rw[iB,cH,cH,N4 i a b];omega
def N5:∀(a b:List aa),dJ (a++b)=dJ a+dJ b
 |[],b=>by rw[dJ];simp
 |x::a,b=>by rw[iB,dJ,dJ,N5 a b];omega
def Av(i:Int){l:List aa}{j:Nat}(b:j<l.length):cH i (l.take (j+1))=cH i (l.take j)+bV i l[j]:=by
 rw[eW b,N4,cH,cH];omega
def N6{l:List aa}{j:Nat}(b:j<l.length):dJ (l.take (j+1))=dJ (l.take j)+cn l[j]:=by
 rw[eW b,N5,dJ,dJ];omega
def ET(l:List aa)(j:Nat):bj (l.take j)<=bj l:=by
 have h:=sX (l.take j) (l.drop j);rw[List.take_append_drop]at h;omega
def EU(i:Int):∀(l:List aa),(∀u∈l,∀i,bV i u<=ao u)->cH i l<=bj l
 |[],_=>by rw[cH];exact be _
 |x::l,h=>by
  have c:=h x (aZ ..) i;have e:=EU i l (fun u b=>h u (bH _ b));rw[cH,bj];omega
def EV(t:aa):∀i,bV i t<=ao t:=by
 refine aa.ind (P:=fun t=>∀i,bV i t<=ao t) (fun t b i=>?_) t;rw[v8,ef];split
 ·omega
 ·have:=EU (if t.k=5 then i+1 else i) t.l b;omega
def EW(i:Int)(l:List aa)(j:Nat):cH i (l.take j)<=bj l:=bf (EU i _ (fun u _=>EV u)) (ET l j)
def EX:∀(l:List aa),(∀u∈l,cn u<=ao u)->dJ l<=bj l
 |[],_=>by rw[dJ];exact be _
 |x::l,h=>by
  have c:=h x (aZ ..);have e:=EX l (fun u b=>h u (bH _ b));rw[dJ,bj];omega
def rn(t:aa):cn t<=ao t:=by
 refine aa.ind (P:=fun t=>cn t<=ao t) (fun t b=>?_) t;rw[Au,ef];have:=EX t.l b;split<;>omega
def N7(l:List aa)(j:Nat):dJ (l.take j)<=bj l:=bf (EX _ (fun u _=>rn u)) (ET l j)
def wa(t:aa):aP t=true->cn t=ao t:=by
 refine aa.ind (P:=fun t=>aP t=true->cn t=ao t) (fun t i c=>?_) t;have j:=fA c;have key:∀l:List aa,(∀u∈l,u∈t.l)->dJ l=bj l:=by
  intro l;induction l with
  |nil=>intro _;rw[dJ,bj]
  |cons x l b=>
   intro h;have g:=h x (aZ ..);rw[dJ,bj,i x g (j x g),b (fun u p=>h u (bH _ p))]
 rw[Au,ef];by_cases h:t.k=5\/t.k=6
 ·rw[if_pos h,key t.l (fun _ h=>h)]
 ·rw[if_neg h,oa c (fun e=>h (.inl e)) (fun e=>h (.inr e)),bj]
def Za(i:Int)(s:aa)(t:aa):∀(k:Nat),ao (bq (cB i s) (k:Int) t)<=ao t+bV ((k:Int)+i) t*ao s:=by
 refine aa.ind (P:=fun t=>∀(k:Nat),ao (bq (cB i s) (k:Int) t)<=ao t+bV ((k:Int)+i) t*ao s) (fun t r k=>?_) t;have key:∀(j:Nat) (l:List aa),(∀u∈l,u∈t.l)->bj (l.map (bq (cB i s) (j:Int)))<=bj l+cH ((j:Int)+i) l*ao s:=by
  intro j l;induction l with
  |nil=>intro _;rw[cP,bj,cH];omega
  |cons x l c=>
   intro h;have g:=r x (h x (aZ ..)) j;have b:=c (fun u w=>h u (bH _ w));rw[ck,bj,bj,cH,Nat.add_mul];omega
 rw[iQ,v8];by_cases h5:t.k=5
 ·rw[if_pos h5,if_neg (by omega),if_pos h5];have g:=DY t (t.l.map (bq (cB i s) ((k+1:Nat):Int)));have b:=key (k+1) t.l (fun _ h=>h);have e:((k+1:Nat):Int)=(k:Int)+1:=by omega
  have A:(k:Int)+1+i=(k:Int)+i+1:=by omega
  rw[e]at g b;rw[A]at b;rw[ef t];omega
 ·rw[if_neg h5];by_cases p:t.k=6
  ·rw[if_pos p,if_neg (by omega),if_neg h5];have g:=DY t (t.l.map (bq (cB i s) (k:Int)));have b:=key k t.l (fun _ h=>h);rw[ef t];omega
  ·rw[if_neg p];unfold cB;split
   ·exact p9 _ _
   ·rename_i hc;split
    ·rename_i D;rw[if_pos ⟨by omega,D⟩];have:=zO 0 k s 0;have h0:iR 0 (k:Int) s=bq (bU 0 (k:Int)) ((0:Nat):Int) s:=rfl;rw[h0];omega
    ·rw[iu,<-ef];exact p9 _ _
def N8(s t:aa):ao (kC 0 s t)<=ao t+bV 0 t*ao s:=by
 have h:=Za 0 s t 0;have e:((0:Nat):Int)+0=0:=rfl;rw[e]at h;exact h
def N9{m:Int}{s t:aa}(c:0<=m)(E:m<=4611686018427000000)(g:Nr m s)(i:Nr m t)(hn:ao t<=4096):Nr (m+4096) (kC 0 s t):=by
 refine⟨?_,?_⟩
 ·exact Y7 (Nr.jN m) (k0:=0) (D:=4096) (fun u d h0 j e h5 r=>Y8 (b:=4096) g c (by omega) h0 j e.1) t 0 (ei _) (by omega) i
 ·refine Y9 (Nr.jN m) (k0:=0) (D:=4096) (by omega) (fun u d h0 j e h5 r=>?_) t 0 (ei _) (by omega) i;unfold cB;split
  ·exact lh (by omega) _ e.2
  ·rename_i h;have w:u.k=3:=by omega
   obtain⟨F,A,G,J⟩:=ES e.1 w;split
   ·exact lh (by omega) _ (Mc (ei _) h0 c (by omega) s 0 (ei _) g.1 g.2).2
   ·have:=nY e.2 (by omega);refine ir (.inr (by rw[aL];omega)) (fun x p=>by rw[aH,A]at p;cases p)
def dD(t:aa):Bool:=t.k==6&&(t.l.headD .none).k==5
def eG(b a:aa)(r:List aa):aa:=.mk 6 [] 0 (bk b::a::r)
def jO(b a:aa):Option aa:=if cn b+bV 0 b*cn a>4096 then none else some (kC 0 a b)
def Aw{t:aa}(g:aP t=true)(h:dD t=true):∃b a r,t=eG b a r:=by
 unfold dD at h;rw[Bool.and_eq_true,beq_iff_eq,beq_iff_eq]at h;obtain⟨i,j,x,a,r,hl,_⟩:=fD g h.1;have c:x.k=5:=by have:=h.2;rw[hl,oX]at this;exact this
 have e:=fA g x (by rw[hl];simp);obtain⟨f1,f2,b,p⟩:=nZ e c;refine⟨b,a,r,?_⟩;have u:x=bk b:=by
  cases x;simp only[aO,aL,aQ,aH]at c f1 f2 p;rw[c,f1,f2,p];rfl
 show t= .mk 6 [] 0 (bk b::a::r);rw[<-u];cases t;simp only[aO,aL,aQ,aH]at h i j hl;rw[h.1,i,j,hl]
def tz{t:aa}(e:aP t=true)(h5:t.k=5):∃b,t=bk b:=by
 obtain⟨f1,f2,b,c⟩:=nZ e h5;refine⟨b,?_⟩;cases t;simp only[aO,aL,aQ,aH]at h5 f1 f2 c;rw[h5,f1,f2,c];rfl
def Nr.more{m b:Int}{t:aa}(h:Nr m t)(c:m<=b):Nr b t:=⟨h.1,lh c t h.2⟩
def kF(b:aa):ao (bk b)=1+ao b:=by unfold bk;rw[iu,bj,bj];omega
inductive lk:aa->Prop
 |lam {b:aa} (h:lk b):lk (bk b)
 |rest {t:aa} (h5:t.k≠5) (h:∀u∈t.l,ao u<=4096):lk t
def lk.kids{t:aa}(h:lk t)(h5:t.k≠5):∀u∈t.l,ao u<=4096:=by
 cases h with
 |lam h=>exact absurd rfl h5
 |rest _ h=>exact h
def lk.body{b:aa}(h:lk (bk b)):lk b:=by
 generalize c:bk b=t at h;cases h with
 |lam h=>unfold bk at c;injection c with _ _ _ c;injection c with c _;subst c;exact h
 |rest h5 _=>subst c;exact absurd rfl h5
def lk.tA(t:aa):aP t=true->ao t<=4096->lk t:=by
 refine aa.ind (P:=fun t=>aP t=true->ao t<=4096->lk t) (fun t g c hn=>?_) t;by_cases h5:t.k=5
 ·obtain⟨b,rfl⟩:=tz c h5;have e:b∈(bk b).l:=by unfold bk;simp[aH]
  have:=kF b;exact .lam (g b e (fA c b e) (by omega))
 ·exact .rest h5 (fun u h=>by have:=fz h;omega)
structure cf (f:Nat) (t:aa):Prop where
 nr:Nr (2199023255552-8192*(f:Int)) t
 bd:lk t
def cf.tA{f:Nat}{t:aa}(h:Nr (2199023255552-8192*(f:Int)) t)(hn:ao t<=4096):cf f t:=⟨h,.tA t h.1 hn⟩
def cf.down{f g:Nat}{t:aa}(h:cf f t)(hg:g<=f):cf g t:=⟨h.nr.more (by omega),h.bd⟩
def cf.dA{f:Nat}{t u:aa}(h:cf f t)(h5:t.k≠5)(b:u∈t.l):cf f u:=.tA ((Nr.jN _ _ h.nr).2 u b) (h.bd.kids h5 u b)
def cf.body{f:Nat}{b:aa}(h:cf f (bk b)):cf f b:=⟨(Nr.jN _ _ h.nr).2 b (by unfold bk;simp[aH]),h.bd.body⟩
def cf.lam{f:Nat}{b:aa}(hf:f<=100000)(h:cf f b):cf f (bk b):=⟨⟨qT h.nr.1,ir (.inr (by unfold bk;rw[aL];omega)) (fun u c=>by unfold bk at c;simp[aH]at c;rw[c];exact h.nr.2)⟩,.lam h.bd⟩
def Ax(f:aa)(xs:List aa):ao (bP f xs)<=ao f+bj xs+1:=by
 cases xs with
 |nil=>rw[DT];omega
 |cons x xs=>
  rw[qU,iu,sX];split
  ·rw[ef f];omega
  ·rw[bj,bj];omega
def cf.beta{n:Nat}{b a:aa}{r:List aa}{u:aa}(hf:n+1<=100000)(h:cf (n+1) (eG b a r))(hc:jO b a=some u):cf n (bP u r)/\ao u<=4096/\ao (bP u r)+4097*n<=ao (eG b a r)+4097*(n+1):=by
 have e:=h.bd.kids (by simp[eG,aO]);have E:ao (bk b)<=4096:=e _ (aZ ..);have F:ao a<=4096:=e _ (bH _ (aZ ..));have G:=kF b;have w:Nr _ (bk b):=(Nr.jN _ _ h.nr).2 _ (aZ ..);have j:=(Nr.jN _ _ w).2 b (by unfold bk;simp[aH]);have p:=(Nr.jN _ _ h.nr).2 a (bH _ (aZ ..));have A:=fun u J=>(Nr.jN _ _ h.nr).2 u (bH _ (bH _ J));unfold jO at hc;split at hc
 ·cases hc
 ·rename_i L;injection hc with hc;rw[wa b j.1,wa a p.1]at L;have g:ao u<=4096:=by
   rw[<-hc];exact bf (N8 a b) (by omega)
  have i:Nr (2199023255552-8192*((n:Nat):Int)) u:=by
   rw[<-hc];exact(N9 (by omega) (by omega) p j (by omega)).more (by omega)
  have t:∀v∈r,Nr (2199023255552-8192*((n:Nat):Int)) v:=fun v c=>(A v c).more (by omega);have D:Nr (2199023255552-8192*((n:Nat):Int)) (bP u r):=⟨sW i.1 (fun v c=>(t v c).1),qV (by omega) i.2 (fun v c=>(t v c).2)⟩;have M:=Ax u r;have N:ao (eG b a r)=1+(ao (bk b)+(ao a+bj r)):=by unfold eG;rw[iu,bj,bj]
  refine⟨⟨D,?_⟩,g,by omega⟩;cases r with
  |nil=>rw[DT];exact .tA u i.1 g
  |cons y r=>
   refine .rest (by rw[qU,aO];decide) ?_;rw[qU,aH];intro v c;rcases cJ.1 c with c|c
   ·split at c
    ·have:=fz c;omega
    ·simp only[cD,List.not_mem_nil,or_false]at c;rw[c];exact g
   ·exact e v (bH _ (bH _ c))
inductive e9:Nat->aa->Option aa->Nat->Prop
 |tB {b a:aa} {r:List aa}:e9 0 (eG b a r) none 0
 |mZ {n:Nat} {b a:aa} {r:List aa} (h:jO b a=none):e9 (n+1) (eG b a r) none (n+1)
 |step {n m:Nat} {b a u:aa} {r:List aa} {o:Option aa} (h:jO b a=some u) (k:e9 n (bP u r) o m):e9 (n+1) (eG b a r) o m
 |stop {n:Nat} {t:aa} (h:dD t=false) (h5:t.k≠5):e9 n t (some t) n
 |lam {n m:Nat} {b:aa} {o:Option aa} (k:e9 n b o m):e9 n (bk b) (o.map bk) m
def pN{f m:Nat}{t:aa}{o:Option aa}(h:e9 f t o m):f<=100000->cf f t->m<=f/\∀u,o=some u->cf m u/\(m<f\/u=t)/\ao u+4097*m<=ao t+4097*f:=by
 induction h with
 |tB=>intro _ _;exact⟨aA _,fun u c=>by cases c⟩
 |mZ h=>intro _ _;exact⟨aA _,fun u c=>by cases c⟩
 |step h k j=>
  intro hf g;obtain⟨r,_,w⟩:=g.beta hf h;obtain⟨p,i⟩:=j (by omega) r;exact⟨by omega,fun u c=>⟨(i u c).1,.inl (by omega),bf (i u c).2.2 w⟩⟩
 |stop h h5=>intro _ g;exact⟨aA _,fun u c=>by injection c with c;subst c;exact⟨g,.inr rfl,aA _⟩⟩
 |@lam n m b o k j=>
  intro hf g;obtain⟨p,i⟩:=j hf g.body;refine⟨p,fun u c=>?_⟩;cases o with
  |none=>cases c
  |some v=>
   injection c with c;subst c;obtain⟨A,hw,hn⟩:=i v rfl;refine⟨A.lam (by omega),hw.imp id (fun e=>by rw[e]),?_⟩;rw[kF,kF];omega
def Zb(f:Nat):f<=100000->∀t,cf f t->∃o m,e9 f t o m:=by
 induction f with
 |zero=>
  intro _ t;refine aa.ind (P:=fun t=>cf 0 t->∃o m,e9 0 t o m) (fun t g c=>?_) t;cases e:dD t
  ·by_cases h5:t.k=5
   ·obtain⟨b,rfl⟩:=tz c.nr.1 h5;have i:b∈(bk b).l:=by unfold bk;simp[aH]
    obtain⟨o,m,h⟩:=g b i c.body;exact⟨_,_,.lam h⟩
   ·exact⟨_,_,.stop e h5⟩
  ·obtain⟨b,a,r,rfl⟩:=Aw c.nr.1 e;exact⟨_,_,.tB⟩
 |succ f j=>
  intro hf t;refine aa.ind (P:=fun t=>cf (f+1) t->∃o m,e9 (f+1) t o m) (fun t g c=>?_) t;cases e:dD t
  ·by_cases h5:t.k=5
   ·obtain⟨b,rfl⟩:=tz c.nr.1 h5;have i:b∈(bk b).l:=by unfold bk;simp[aH]
    obtain⟨o,m,h⟩:=g b i c.body;exact⟨_,_,.lam h⟩
   ·exact⟨_,_,.stop e h5⟩
  ·obtain⟨b,a,r,rfl⟩:=Aw c.nr.1 e;cases hc:jO b a with
   |none=>exact⟨_,_,.mZ hc⟩
   |some u=>
    obtain⟨o,m,h⟩:=j (by omega) _ (c.beta hf hc).1;exact⟨_,_,.step hc h⟩
mutual
inductive dV:Nat->aa->Option aa->Nat->Prop
 |bad {n m:Nat} {t:aa} (h:e9 n t none m):dV n t none m
 |lam {n m q:Nat} {t b:aa} {o:Option aa} (h:e9 n t (some (bk b)) m) (k:dV m b o q):dV n t (o.map bk) q
 |kids {n m q:Nat} {t u:aa} {o:Option (List aa)} (h:e9 n t (some u) m) (h5:u.k≠5) (k:rp m u.l o q):dV n t (o.map fun l=>.mk u.k u.name u.n l) q
inductive rp:Nat->List aa->Option (List aa)->Nat->Prop
 |nil {n:Nat}:rp n [] (some []) n
 |bad {n m:Nat} {x:aa} {l:List aa} (h:dV n x none m):rp n (x::l) none m
 |cons {n m q:Nat} {x y:aa} {l:List aa} {o:Option (List aa)} (h:dV n x (some y) m) (k:rp m l o q):rp n (x::l) (o.map fun l=>y::l) q
end
def EY{n m:Nat}{t:aa}{o:Option aa}(h:e9 n t o m)(h5:t.k≠5)(b:t.k≠6):o=some t/\m=n:=by
 cases h with
 |stop _ _=>exact⟨rfl,rfl⟩
 |lam _=>exact absurd rfl h5
 |tB=>exact absurd rfl b
 |mZ _=>exact absurd rfl b
 |step _ _=>exact absurd rfl b
def Oa{n m:Nat}{t:aa}{o:Option aa}(h:e9 n t o m):∀u,o=some u->u.k≠5->dD u=false:=by
 induction h with
 |tB=>intro u c;cases c
 |mZ _=>intro u c;cases c
 |step _ _ e=>exact e
 |stop h _=>intro u c _;injection c with c;subst c;exact h
 |@lam n m b o k e=>
  intro u c h5;cases o with
  |none=>cases c
  |some v=>injection c with c;subst c;exact absurd rfl h5
def EZ{n m:Nat}{t:aa}{o:Option aa}(i:aP t=true)(h:dV n t o m)(h5:t.k≠5)(g:t.k≠6):o=some t/\m=n:=by
 cases h with
 |bad h=>have:=(EY h h5 g).1;cases this
 |lam h k=>have:=(EY h h5 g).1;injection this with this;subst this;exact absurd rfl h5
 |@kids _ _ _ _ u o h j k=>
  obtain⟨e,rfl⟩:=EY h h5 g;injection e with e;subst e;have hl:=oa i h5 g;rw[hl]at k;cases k with
  |nil=>
   refine⟨?_,rfl⟩;cases u with
   |mk a b c d=>simp only[aH]at hl;subst hl;rfl
def Ob(f:Nat)(t:aa)(o:Option aa)(q:Nat):Prop:=f<=100000->cf f t->q<=f/\∀u,o=some u->Nr (2199023255552-8192*(q:Int)) u/\ao u+4097*q<=ao t+4097*f
def Zc(f:Nat)(l:List aa)(o:Option (List aa))(q:Nat):Prop:=f<=100000->(∀x∈l,cf f x)->q<=f/\∀r,o=some r->r.length=l.length/\(∀y∈r,Nr (2199023255552-8192*(q:Int)) y)/\bj r+4097*q<=bj l+4097*f/\(∀x,l.head?=some x->x.k≠5->x.k≠6->r.head?=some x)
def rq{f q:Nat}{t:aa}{o:Option aa}(h:dV f t o q):Ob f t o q:=by
 refine dV.rec (motive_1:=fun f t o q _=>Ob f t o q) (motive_2:=fun f l o q _=>Zc f l o q) ?_ ?_ ?_ ?_ ?_ ?_ h
 ·intro n m t h hf i;exact⟨(pN h hf i).1,fun u p=>by cases p⟩
 ·intro n m q t b o h k L hf i;obtain⟨Q,M⟩:=pN h hf i;obtain⟨E,Z,R⟩:=M _ rfl;obtain⟨j1,N⟩:=L (by omega) E.body;refine⟨by omega,fun u p=>?_⟩;cases o with
  |none=>cases p
  |some v=>
   injection p with p;subst p;obtain⟨w,F⟩:=N v rfl;refine⟨⟨qT w.1,ir (.inr (by unfold bk;rw[aL];omega)) (fun u p=>by unfold bk at p;simp[aH]at p;rw[p];exact w.2)⟩,?_⟩;rw[kF]at R⊢;omega
 ·intro n m q t u o h h5 k L hf i;obtain⟨Q,M⟩:=pN h hf i;obtain⟨E,Z,R⟩:=M _ rfl;obtain⟨j1,N⟩:=L (by omega) (fun x D=>E.dA h5 D);refine⟨by omega,fun v G=>?_⟩;cases o with
  |none=>cases G
  |some r=>
   injection G with G;subst G;obtain⟨w,F,k3,k4⟩:=N r rfl;have j:=E.nr.1;refine⟨⟨?_,?_⟩,?_⟩
   ·by_cases J:u.k=6
    ·obtain⟨e1,e2,a,b,l,hl,ha⟩:=fD j J;have g:=Oa h u rfl h5;have T:a.k≠5:=by
      unfold dD at g;rw[hl,oX,J]at g;simpa using g
     have O:=k4 a (by rw[hl];rfl) T ha;rw[hl]at w
     match r,w,O,F with
     |x::y::r,_,O,F=>
      injection O with O;subst O;rw[J,e1,e2];exact vz ha (fun v G=>(F v G).1)
    ·have hl:=oa j h5 J;rw[hl]at w;have U:r=[]:=List.eq_nil_of_length_eq_zero w;subst U;have e:aa.mk u.k u.name u.n []=u:=by
      cases u with
      |mk a b c d=>simp only[aH]at hl;subst hl;rfl
     show aP (aa.mk u.k u.name u.n [])=true;rw[e];exact j
   ·refine ir ?_ (fun x D=>(F x D).2);rw[aO,aL];by_cases P:u.k=2
    ·exact .inl P
    ·have:=nY E.nr.2 P;right;omega
   ·rw[iu];rw[ef u]at R;omega
 ·intro n hf i;refine⟨aA _,fun r g=>?_⟩;injection g with g;subst g;exact⟨rfl,(fun y hy=>by cases hy),aA _,(fun x D=>by cases D)⟩
 ·intro n m x l h L hf i;exact⟨(L hf (i x (aZ ..))).1,fun r g=>by cases g⟩
 ·intro n m q x y l o h k X Y hf i;have D:=i x (aZ ..);obtain⟨Q,M⟩:=X hf D;obtain⟨E,Z⟩:=M y rfl;obtain⟨j1,N⟩:=Y (by omega) (fun z A=>(i z (bH _ A)).down Q);refine⟨by omega,fun r g=>?_⟩;cases o with
  |none=>cases g
  |some s=>
   injection g with g;subst g;obtain⟨w,F,k3,k4⟩:=N s rfl;refine⟨by simp[w],fun z A=>?_,?_,fun z A h5 J=>?_⟩
   ·rcases cD.1 A with rfl|A
    ·exact E.more (by omega)
    ·exact F z A
   ·rw[bj,bj];omega
   ·injection A with A;subst A;have:=(EZ D.nr.1 h h5 J).1;injection this with this;subst this;rfl
def Zd{f N:Nat}(hf:f<=100000)(i:∀(m:Nat) (x:aa),m<=f->(m<f\/ao x<N)->cf m x->∃o q,dV m x o q):∀(l:List aa) (m:Nat),m<=f->(m<f\/∀x∈l,ao x<N)->(∀x∈l,cf m x)->∃o q,rp m l o q:=by
 intro l;induction l with
 |nil=>intro m _ _ _;exact⟨_,_,.nil⟩
 |cons x l b=>
  intro m j hs e;have g:=e x (aZ ..);obtain⟨o,q,h⟩:=i m x j (hs.imp id (fun h=>h x (aZ ..))) g;cases o with
  |none=>exact⟨_,_,.bad h⟩
  |some y=>
   have p:=(rq h (by omega) g).1;obtain⟨o,t,r⟩:=b q (by omega) (by
    rcases hs with hs|hs
    ·exact .inl (by omega)
    ·exact .inr fun z c=>hs z (bH _ c)) (fun z c=>(e z (bH _ c)).down p)
   exact⟨_,_,.cons h r⟩
def Oc(f:Nat):f<=100000->∀t,cf f t->∃o q,dV f t o q:=by
 induction f using Nat.strongRecOn with
 |ind f i=>
  intro hf;have key:∀(N:Nat) (t:aa),ao t<N->cf f t->∃o q,dV f t o q:=by
   intro N;induction N with
   |zero=>intro t h;omega
   |succ N j=>
    intro t A g;obtain⟨o,m,h⟩:=Zb f hf t g;cases o with
    |none=>exact⟨_,_,.bad h⟩
    |some u=>
     obtain⟨r,D⟩:=pN h hf g;obtain⟨p,i2,_⟩:=D u rfl;have w:∀(m:Nat) (x:aa),m<=f->(m<f\/ao x<N)->cf m x->∃o q,dV m x o q:=fun m x F E c=>by
      by_cases e:m<f
      ·exact i m e (by omega) x c
      ·obtain rfl:m=f:=by omega
       exact j x (E.resolve_left e) c
     by_cases h5:u.k=5
     ·obtain⟨b,rfl⟩:=tz p.nr.1 h5;obtain⟨o,q,k⟩:=w m b r (by
       rcases i2 with i2|i2
       ·exact .inl i2
       ·rw[<-i2,kF]at A;exact .inr (by omega)) p.body
      exact⟨_,_,.lam h k⟩
     ·obtain⟨o,q,k⟩:=Zd hf w u.l m r (by
       rcases i2 with i2|i2
       ·exact .inl i2
       ·subst i2;exact .inr fun x c=>by have:=fz c;omega) (fun x c=>p.dA h5 c)
      exact⟨_,_,.kids h h5 k⟩
  intro t g;exact key (ao t+1) t (by omega) g
mutual
inductive ll (s:List aa):aa->Int->Int->Prop where
 |neg {t:aa} {n:Int} (h:n<0):ll s t n n
 |go {t u:aa} {n r:Int} {k:Nat} (h:0<=n) (d:eP s t u k) (a:gD s u.l (n-1) r):ll s t n r
inductive gD (s:List aa):List aa->Int->Int->Prop where
 |nil {n:Int}:gD s [] n n
 |cons {t:aa} {l:List aa} {n m r:Int} (a:ll s t n m) (b:gD s l m r):gD s (t::l) n r
end
def E0{s:List aa}{d:Int}(c:∀(t:aa) (n:Int),ay s.length t->n<=d->∃r,ll s t n r/\r<=n):∀(l:List aa) (n:Int),(∀x∈l,ay s.length x)->n<=d->∃r,gD s l n r/\r<=n
 |[],n,_,_=>⟨n,.nil,ei _⟩
 |t::l,n,h,hn=>by
  obtain⟨m,a,g⟩:=c t n (h t (aZ ..)) hn;obtain⟨r,b,i⟩:=E0 c l m (fun x e=>h x (bH _ e)) (by omega);exact⟨r,.cons a b,by omega⟩
def Od{s:List aa}(g:sC s):∀(d:Nat) (t:aa) (n:Int),ay s.length t->n<=(d:Int)-1->∃r,ll s t n r/\r<=n
 |0,t,n,_,hn=>⟨n,.neg (by omega),ei _⟩
 |d+1,t,n,c,hn=>by
  by_cases h0:n<0
  ·exact⟨n,.neg h0,ei _⟩
  obtain⟨j,p⟩:=g.less;obtain⟨m,w⟩:=uX j c;obtain⟨u,k,r,_,h,A,_⟩:=yv p m t c w;have b:∀x∈u.l,ay s.length x:=fun x e=>by
   by_cases i:u.k=1
   ·obtain⟨_,_,_,hl⟩:=h.var i;rw[hl]at e;cases e
   ·exact h.dA i e
  obtain⟨D,a,E⟩:=E0 (fun t n c hn=>Od g d t n c hn) u.l (n-1) b (by omega);exact⟨D,.go (by omega) r a,by omega⟩
mutual
def ba:al->Int
 | .mk k _ _ l _=>if k=0\/k=1\/k=2 then 1 else if(k=4/\l.length=1)\/(k=3/\l.length=2)then cv 1 l else-1
def cv(n:Int):List al->Int
 |[]=>n
 |p::l=>if ba p<0 then-1 else cv (n+ba p) l
end
open Classical in
noncomputable def ru(t:aa):Option aa:=if h:∃o q,dV 1000 t o q then xw h else none
def Oe{t:aa}(h:∃o q,dV 1000 t o q):∃q,dV 1000 t (ru t) q:=by
 unfold ru;rw[dif_pos h];exact Bm h
open Classical in
noncomputable def pO(s:List aa)(l:List aa)(n:Int):Int:=if h:∃r,gD s l n r then xw h else 0
def Ze{s l:List aa}{n:Int}(h:∃r,gD s l n r):gD s l n (pO s l n):=by
 unfold pO;rw[dif_pos h];exact Bm h
open Classical in
noncomputable def wb(s:List aa)(l:List aa):List aa:=if h:∃r,fY s l r then xw h else[]
def Zf{s l:List aa}(h:∃r,fY s l r):fY s l (wb s l):=by
 unfold wb;rw[dif_pos h];exact Bm h

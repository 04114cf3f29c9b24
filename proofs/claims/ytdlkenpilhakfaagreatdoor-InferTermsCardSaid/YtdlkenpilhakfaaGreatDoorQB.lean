/- . -/
import Derived.Test.YtdlkenpilhakfaaGreatDoorQA
import Derived.Lib.IndexMore
import Derived.Lib.SlTrimSet
import Derived.Lib.AtoiAll
import Derived.Deep.Slices
import Derived.Lib.Join
import Derived.Lib.ItoaLen
import Derived.OrdersIn
import Derived.RangeFuncNested
import Derived.Test.YtdlkenpilhakfaaGreatDoorChecked
import Derived.WalkLawsBesides
set_option linter.unusedSimpArgs false
set_option linter.unusedVariables false
set_option maxHeartbeats 8000000
set_option maxRecDepth 20000
set_option linter.defProp false
set_option linter.unnecessarySimpa false
set_option linter.constructorNameAsVariable false
open Array renaming ext'->oR,getD->nB,getD_eq_getD_getElem?->iV,getElem?_eq_getElem->Ba,getElem?_eq_none->GL,getElem?_eq_some_iff->eu,getElem?_replicate->QA,replicate->ft,setIfInBounds_comm->xl
open Bool renaming and_eq_true->bM,false_eq_true->iW,false_or->tX,and_false->rU,rec->Bf,eq_iff_iff->kN
open Classical renaming choice->fO
open Go renaming getD_set_ne->mj,mem_ready->lx,ready_mono->jx,run_underlying->cA
open Go.DataW renaming trod->xy
open Go.Instr renaming loadAt->xf,sureAddr->tT
open Go.IntKind renaming i64->aE
open Go.Lib renaming hid->jY
open Go.Op renaming equalIn->gW
open Go.Oper renaming wp->jy
open Go.Region renaming binds->gd,ready->eV
open Go.Result renaming andThen_ok->kL
open Go.Sem renaming run_bind->jU,run_pure->kK
open Go.World renaming cells?_some->Bo
open List renaming all_eq_true->cW,flatMap_cons->Qz,getD->mb,getD_eq_getElem?_getD->cx,getElem?_append_left->cr,getElem?_append_right->da,getElem?_eq_some_iff->aI,getElem?_take->nD,getElem_append_left->cM,getElem_append_right->dY,getElem_map->eI,getElem_of_mem->eH,length_append->bC,length_cons->bG,length_set->bz,mapM_cons->A4,map_cons->ck,mem_append->cJ,mem_cons->cD,mem_range->nE,range->ga,set_append_right->gX,take_left->mh,take_of_length_le->dT,take_succ_cons->jW,append_nil->cd,find?_eq_some_iff_getElem->QC,findIdx?_eq_none_iff->Bd,findIdx?_eq_some_iff_getElem->Bc,length_nil->dU,take_zero->ey,getElem?_eq_getElem->aN,mem_map->eU,cons_append->iB,drop_eq_getElem_cons->gg,drop_eq_nil_of_le->xg,getElem?_set_ne->bA,getElem?_set_self->bW,getElem_cons_succ->ml,getElem_cons_zero->di,getElem_mem->bg,getElem_set_ne->gb,getElem_set_self->gU,mem_append_left->kM,mem_cons_of_mem->bH,mem_cons_self->aZ,mem_of_getElem?->GN,mem_or_eq_of_mem_set->mr,set_append_left->ly,set_set->rS,sizeOf_lt_of_mem->aee,all_cons->mg,getElem_eq_iff->nG,contains_iff_mem->aej
open Nat renaming add_assoc->jV,add_mul->fK,le_refl->aA,lt_of_succ_lt_succ->mm,lt_or_ge->eh,mul_le_mul_right->jT,sub_self->cw,zero_le->be,reduceAdd->iA,add_sub_cancel_left->fu,beq->cm,ble->dM,blt->mu,eq_of_beq_eq_true->fP,le_of_ble_eq_true->fv,le_trans->bf,lt_succ_iff_lt_or_eq->Be,lt_succ_self->A7,mod_two_eq_zero_or_one->Bg,not_lt_zero->fe,strongRecOn->p6,succ_lt_succ->Bb,le_succ->mc,lt_irrefl->p8
open Ne renaming symm->dz
open Go.Proofs.Tryz
namespace Go.Lamb
open Go Go.RowKit
section
variable {P:Program} {w0 w w':World} {κ κ0:K} {σ σ':H} {a:Act} {ρ ρ':Env} {n:Nat}
def fj{x:ah}(h:∀k∈x.tmps,ρ k=ρ' k):x.ev ρ=x.ev ρ':=by
 cases x with
 |t n=>exact h n (by simp[ah.tmps])
 |k v=>rfl
def Hx:∀(b:List (Nat×Nat×ah)) (cs:List V),(∀k∈b.flatMap (fun p=>p.2.2.tmps),ρ k=ρ' k)->lC ρ cs b=lC ρ' cs b
 |[],cs,_=>rfl
 |(o,s,x)::b,cs,h=>by
  simp only[Qz,cJ]at h;have e:x.ev ρ=x.ev ρ':=fj fun k c=>h k (.inl c);simp only[lC,e];split
  ·exact Hx b _ fun k c=>h k (.inr c)
  ·rfl
def Hy{size:Nat}:∀(b:List ah),(∀k∈b.flatMap ah.tmps,ρ k=ρ' k)->jF ρ size b=jF ρ' size b
 |[],_=>rfl
 |x::b,h=>by
  simp only[Qz,cJ]at h;have e:x.ev ρ=x.ev ρ':=fj fun k c=>h k (.inl c);simp only[jF,e,Hy b fun k c=>h k (.inr c)]
def uy:∀(b:List ah),(∀k∈b.flatMap ah.tmps,ρ k=ρ' k)->b.map (·.ev ρ)=b.map (·.ev ρ')
 |[],_=>rfl
 |x::b,h=>by
  simp only[Qz,cJ]at h;have e:x.ev ρ=x.ev ρ':=fj fun k c=>h k (.inl c);simp only[ck,e,uy b fun k c=>h k (.inr c)]
def uz{m:Nat}{x:Option ah}(h:∀k∈si x,ρ k=ρ' k):ia ρ m x=ia ρ' m x/\ka ρ m x=ka ρ' m x:=by
 cases x with
 |none=>exact⟨rfl,rfl⟩
 |some x=>
  have b:x.ev ρ=x.ev ρ':=fj h;simp only[ia,ka,b,and_self]
def BU{i:bB}(h:∀k∈i.looks,ρ k=ρ' k):step ρ σ i=step ρ' σ i:=by
 cases i with
 |jc x|box x _|my x|ez _ x|iD x|lz _ _ x|un _ x|conv _ x|rY x|uf x|o7 _ x|j0 _ x|ug _ _ x|ext x _|lens x|eM x|qc x|kP _ _ _ x=>
  have g:x.ev ρ=x.ev ρ':=fj h;simp only[step,g]
 |pick c x y=>
  simp only[bB.looks,cJ]at h;have hc:c.ev ρ=c.ev ρ':=fj fun k e=>h k (.inl (.inl e));have g:x.ev ρ=x.ev ρ':=fj fun k e=>h k (.inl (.inr e));have j:y.ev ρ=y.ev ρ':=fj fun k e=>h k (.inr e);simp only[step,hc,g,j]
 |build z p=>simp only[step,Hx p z h]
 |o6 s p=>simp only[step,Hy p h]
 |lB=>rfl
 |kQ q x k y=>
  simp only[bB.looks,cJ]at h;have hc:x.ev ρ=x.ev ρ':=fj fun k e=>h k (.inl (.inl e));have g:k.ev ρ=k.ev ρ':=fj fun k e=>h k (.inl (.inr e));have j:y.ev ρ=y.ev ρ':=fj fun k e=>h k (.inr e);simp only[step,hc,g,j]
 |look _ _ _ x y|store _ x y|bin _ x y|qb _ x y|eqs _ _ x y|dm _ x y|index x y|app _ _ _ x y|mz _ _ x y|mx x y|mn x y=>
  simp only[bB.looks,cJ]at h;have g:x.ev ρ=x.ev ρ':=fj fun k e=>h k (.inl e);have j:y.ev ρ=y.ev ρ':=fj fun k e=>h k (.inr e);simp only[step,g,j]
 |gZ f cs=>simp only[step,uy cs h]
 |lA x r t=>
  simp only[bB.looks,cJ]at h;have g:x.ev ρ=x.ev ρ':=fj fun k e=>h k (.inl (.inl e));have h1:=fun m=>(uz (m:=m) (x:=r) fun k e=>h k (.inl (.inr e))).2;have h2:=fun m=>(uz (m:=m) (x:=t) fun k e=>h k (.inr e)).1;simp only[step,g,h1,h2]
 |gk s x r t q=>
  simp only[bB.looks,cJ]at h;have g:x.ev ρ=x.ev ρ':=fj fun k e=>h k (.inl (.inl (.inl e)));have h1:=fun m=>(uz (m:=m) (x:=r) fun k e=>h k (.inl (.inl (.inr e)))).2;have h2:=fun m=>(uz (m:=m) (x:=t) fun k e=>h k (.inl (.inr e))).1;cases q with
  |none=>simp only[step,g,h1,h2]
  |some q=>
   have u:=fun m=>(uz (m:=m) (x:=some q) fun k e=>h k (.inr e)).1;simp only[step,g,h1,h2,u]
 |call f b=>rfl
 |jd _ x=>rfl
 |bad=>rfl
def BV{g:Option (Nat×Bool)}(h:∀d w,g=some (d,w)->ρ d=ρ' d):bQ ρ g=bQ ρ' g:=by
 cases g with
 |none=>rfl
 |some p=>
  obtain⟨d,want⟩:=p;simp only[bQ,h d want rfl]
def dN.agree{o:ai}{v:V}(h:∀k∈o.looks,ρ k=ρ' k)(y:dN P w0 σ o ρ v):dN P w0 σ o ρ' v:=by
 unfold ai.looks at h;simp only[cJ]at h;have hw:bQ ρ o.guard=bQ ρ' o.guard:=BV fun d want e=>h d (.inr (by rw[e];simp));cases y with
 |skip hg=>exact .skip (by rw[<-hw];exact hg)
 |step hg j=>exact .step (by rw[<-hw];exact hg) (by rw[<-BU fun k c=>h k (.inl c)];exact j)
 |call hg i hf hc=>
  rename_i f b p caps;rw[i]at h;simp only[bB.looks,cJ]at h;have g:f.ev ρ=f.ev ρ':=fj fun k c=>h k (.inl (.inl c));have r:b.map (·.ev ρ)=b.map (·.ev ρ'):=uy b fun k c=>h k (.inl (.inr c));exact .call (by rw[<-hw];exact hg) i (by rw[<-g];exact hf) (by rw[<-r];exact hc)
def uA{d:Option Nat}{v:V}{k:Nat}(h:d≠some k):(ρ.put d v) k=ρ k:=by
 cases d with
 |none=>rfl
 |some d=>simp only[Env.put];rw[if_neg (fun e=>h (by rw[e]))]
def put_comm{d e:Option Nat}{u v:V}(h:∀k,d=some k->e≠some k):(ρ.put d u).put e v=(ρ.put e v).put d u:=by
 cases d with
 |none=>rfl
 |some d=>
  cases e with
  |none=>rfl
  |some e=>
   have b:d≠e:=fun c=>h d rfl (by rw[c]);funext k;simp only[Env.put];by_cases h1:k=e
   ·subst h1;rw[if_pos rfl,if_neg (fun e=>b e.symm),if_pos rfl]
   ·rw[if_neg h1,if_neg h1]
def xS{x y:ai}(h:jG x y=true):(∀d,x.dst=some d->d∉y.looks)/\(∀d,x.dst=some d->y.dst≠some d)/\(∀d,y.dst=some d->d∉x.looks):=by
 unfold jG at h;simp only[bM]at h;refine⟨fun d hd=>?_,fun d hd=>?_,fun d hd=>?_⟩
 ·rw[hd]at h;have:=h.1;simp at this;exact this.1
 ·rw[hd]at h;have:=h.1;simp at this;exact this.2
 ·rw[hd]at h;have:=h.2;simp at this;exact this
def dN.put{o:ai}{d:Option Nat}{u v:V}(h:∀e,d=some e->e∉o.looks)(y:dN P w0 σ o ρ v):dN P w0 σ o (ρ.put d u) v:=
 y.agree fun k b=>(uA fun e=>h k e b).symm
def dN.kj{o:ai}{d:Option Nat}{u v:V}(h:∀e,d=some e->e∉o.looks)(y:dN P w0 σ o (ρ.put d u) v):dN P w0 σ o ρ v:=
 y.agree fun k b=>uA fun e=>h k e b
def uB(P:Program)(w0:World)(σ:H)(ops:Array Oper)(aops:Array ai)(F:Env->Prop):Nat->Array Bool->Env->Prop
 |0,b,ρ=>eV .any ops b=[]/\F ρ
 |fuel+1,b,ρ=>(eV .any ops b=[]->F ρ)/\∀i∈eV .any ops b,∃o v,aops[i]?=some o/\dN P w0 σ o ρ v/\uB P w0 σ ops aops F fuel (b.setIfInBounds i true) (ρ.put o.dst v)
def uC{ops:Array Oper}{aops:Array ai}{b:Array Bool}{i:Nat}{x:ai}(h:xO ops aops b i=true)(w:aops[i]?=some x){j:Nat}{t:Oper}(hj:ops[j]?=some t)(c:j≠i)(g:b.getD j true=false)
  (p:∀e∈t.after,gd .any e=true->e.on≠i):∃y,aops[j]?=some y/\jG x y=true:=by
 unfold xO at h;rw[cW]at h;have h1:=h j (nE.2 (eu.1 hj).1);simp only[hj,w,Bool.or_eq_true,beq_iff_eq,c,false_or,g,iW]at h1;rcases h1 with h1|h1
 ·obtain⟨e,A,r⟩:=Array.any_eq_true'.1 h1;simp only[bM,beq_iff_eq]at r;exact absurd r.2 (p e A r.1)
 ·cases u:aops[j]? with
  |none=>rw[u]at h1;cases h1
  |some y=>rw[u]at h1;exact⟨y,rfl,h1⟩
def Hz{ops:Array Oper}{aops:Array ai}{F:Env->Prop}{i:Nat}{x:ai}{v:V}(N:aops[i]?=some x):∀(fuel:Nat) (b:Array Bool) (ρ:Env),
  (∀j A,ops[j]?=some A->j≠i->b.getD j true=false->(∀e∈A.after,gd .any e=true->e.on≠i)->∃y,aops[j]?=some y/\jG x y=true)->
  i∈eV .any ops b->dN P w0 σ x ρ v->uB P w0 σ ops aops F fuel (b.setIfInBounds i true) (ρ.put x.dst v)->uB P w0 σ ops aops F (fuel+1) b ρ
 |0,b,ρ,_,w,M,H=>by
  refine⟨fun h=>(by rw[h]at w;cases w),fun j hj=>?_⟩;by_cases c:j=i
  ·subst c;exact⟨x,v,N,M,H⟩
  ·have:=jx hj c;rw[H.1]at this;cases this
 |fuel+1,b,ρ,g,w,M,H=>by
  refine⟨fun h=>(by rw[h]at w;cases w),fun j hj=>?_⟩;by_cases c:j=i
  ·subst c;exact⟨x,v,N,M,H⟩
  ·obtain⟨y,u,D,O,Q⟩:=H.2 j (jx hj c);obtain⟨t,A,R,E⟩:=lx.1 hj;have G:∀e∈A.after,gd .any e=true->e.on≠i:=fun e he hb T=>by
    have h1:=E e he hb;have h0:=(lx.1 w).1;rw[T]at h1;rcases eh i b.size with U|U
    ·simp[U]at h0 h1;rw[h0]at h1;cases h1
    ·simp[GL U]at h1
   obtain⟨y',p,X⟩:=g j A R c t G;rw[D]at p;injection p with p;subst p;obtain⟨p1,p2,p3⟩:=xS X;refine⟨y,u,D,O.kj p1,?_⟩;have r:∀k ok,ops[k]?=some ok->k≠i->(b.setIfInBounds j true).getD k true=false->(∀e∈ok.after,gd .any e=true->e.on≠i)->∃y,aops[k]?=some y/\jG x y=true:=fun k ok Y Z J hno=>by
    refine g k ok Y Z ?_ hno;by_cases L:j=k
    ·subst L;exact t
    ·rw[mj true L]at J;exact J
   refine Hz N fuel (b.setIfInBounds j true) _ r (jx w (dz c)) (M.put p3) ?_;rw[xl _ _ c,put_comm (fun k Y e=>p2 k e Y)];exact Q
def HB{ops:Array Oper}{aops:Array ai}{F:Env->Prop}:∀(l:List ai) (k:Nat) (b:Array Bool) (ρ ρ':Env),(∀j,l[j]?=aops[k+j]?)->lG ops aops l.length k b=true->Canon P w0 σ l ρ ρ'->F ρ'->
  uB P w0 σ ops aops F l.length b ρ
 |[],k,b,ρ,ρ',_,c,hc,e=>by
  cases hc;exact⟨by simpa[lG]using c,e⟩
 |o::l,k,b,ρ,ρ',hl,c,hc,e=>by
  have h0:aops[k]?=some o:=by simpa using(hl 0).symm
  simp only[bG,lG,bM]at c;obtain⟨⟨r,hf⟩,g⟩:=c;cases hc with
  |cons t hc=>
   exact Hz h0 l.length b ρ (fun j u hj h i p=>uC hf h0 hj h i p) (by simpa using r) t
    (HB l (k+1) _ _ ρ' (fun j=>by have:=hl (j+1);simpa[jV,Nat.add_comm 1 j]using this) g hc e)
end
section
variable {P:Program} {w0 w w':World} {κ κ0:K} {σ σ':H} {a:Act} {ρ ρ':Env} {n:Nat}
def fh.agree{o:ai}{v:V}{σ1:H}(h:∀k∈o.looks,ρ k=ρ' k)(y:fh P w0 σ o ρ v σ1):fh P w0 σ o ρ' v σ1:=by
 unfold ai.looks at h;simp only[cJ]at h;have hw:bQ ρ o.guard=bQ ρ' o.guard:=BV fun d want e=>h d (.inr (by rw[e];simp));cases y with
 |skip hg=>exact .skip (by rw[<-hw];exact hg)
 |step hg r=>exact .step (by rw[<-hw];exact hg) (by rw[<-BU fun k c=>h k (.inl c)];exact r)
 |call hg g hf hc=>
  rename_i f b t caps;rw[g]at h;simp only[bB.looks,cJ]at h;have i:f.ev ρ=f.ev ρ':=fj fun k c=>h k (.inl (.inl c));have u:b.map (·.ev ρ)=b.map (·.ev ρ'):=uy b fun k c=>h k (.inl (.inr c));exact .call (by rw[<-hw];exact hg) g (by rw[<-i];exact hf) (by rw[<-u];exact hc)
 |vec hg g w A hc=>
  rename_i x y olds news;rw[g]at h;simp only[bB.looks,cJ]at h;have j:x.ev ρ=x.ev ρ':=fj fun k c=>h k (.inl (.inl c));have p:y.ev ρ=y.ev ρ':=fj fun k c=>h k (.inl (.inr c));exact .vec (by rw[<-hw];exact hg) g (by rw[<-j];exact w) (by rw[<-p];exact A) hc
def fh.put{o:ai}{d:Option Nat}{u v:V}{σ1:H}(h:∀e,d=some e->e∉o.looks)(y:fh P w0 σ o ρ v σ1):fh P w0 σ o (ρ.put d u) v σ1:=
 y.agree fun k b=>(uA fun e=>h k e b).symm
def kl(ops:Array Oper)(b:Array Bool):Prop:=
 ∀(k:Nat) (o:Oper),ops[k]?=some o->b.getD k false=true->∀e∈o.after,gd .any e=true->b.getD e.on false=true
def HC{ops:Array Oper}{an:Array Nat}(h:mD ops an=true){k:Nat}{o:Oper}(c:ops[k]?=some o){j:Nat}(hj:j<ops.size)(ha:ib an k j=true):∃e∈o.after,gd .any e=true/\(e.on=j\/ib an e.on j=true)/\e.on<k:=by
 unfold mD at h;rw[cW]at h;have h1:=h k (nE.2 (eu.1 c).1);simp only[c,cW,nE]at h1;have h2:=h1 j hj;simp only[ha,Bool.not_true,tX]at h2;obtain⟨e,g,b⟩:=Array.any_eq_true'.1 h2;simp only[bM,Bool.or_eq_true,beq_iff_eq,decide_eq_true_eq]at b;exact⟨e,g,b.1.1,b.1.2,b.2⟩
def R5{ops:Array Oper}{an:Array Nat}(h:mD ops an=true){b:Array Bool}(hc:kl ops b){j:Nat}(hj:j<ops.size):∀(k:Nat),k<ops.size->b.getD k false=true->ib an k j=true->b.getD j false=true:=by
 intro k;induction k using Nat.strongRecOn with
 |_ k p=>
  intro c r ha;obtain⟨e,t,u,g,i⟩:=HC h (Ba c) hj ha;have hl:=hc k _ (Ba c) r e t u;rcases g with rfl|g
  ·exact hl
  ·exact p e.on i (by omega) hl g
def BW{ops:Array Oper}{an:Array Nat}(h:mD ops an=true){b:Array Bool}(hc:kl ops b){i j:Nat}(r:i∈eV .any ops b)(hj:j<ops.size)(ha:ib an i j=true):b.getD j false=true:=by
 obtain⟨_,o,p,c⟩:=lx.1 r;obtain⟨e,t,u,g,w⟩:=HC h p hj ha;have hl:=c e t u;have A:=(eu.1 p).1;rcases g with rfl|g
 ·exact hl
 ·exact R5 h hc hj e.on (by omega) hl g
def kl.set{ops:Array Oper}{b:Array Bool}(hc:kl ops b){i:Nat}(u:i∈eV .any ops b):kl ops (b.setIfInBounds i true):=by
 intro k o j p e r t;by_cases g:k=i
 ·subst g;obtain⟨_,o',c,h⟩:=lx.1 u;rw[j]at c;injection c with c;subst c;exact getD_set_true (h e r t)
 ·rw[mj false (dz g)]at p;exact getD_set_true (hc k o j p e r t)
def qn{b:Array Bool}{x:Nat}(c:b.getD x true=false):¬b.getD x false=true:=by
 intro e;rcases eh x b.size with g|g
 ·simp[g]at c e;rw[c]at e;cases e
 ·simp[GL g]at c
def xT{q:Bool}{aops:Array ai}{b:Array Bool}{j:Nat}(hj:((aops.getD j default).bL q)=false):iI q aops (b.setIfInBounds j true)=iI q aops b:=by
 unfold iI;congr 1;apply List.filter_congr;intro x _;by_cases c:x=j
 ·subst c;rw[hj];rfl
 ·rw[mj false (dz c)]
def lo_le{q:Bool}{ops:Array Oper}{an:Array Nat}(h:mD ops an=true){aops:Array ai}(g:aops.size=ops.size){b:Array Bool}(hc:kl ops b){i:Nat}(p:i∈eV .any ops b):ic q an aops i<=iI q aops b:=by
 unfold ic iI;have key:∀l:List Nat,(∀x∈l,x<ops.size)->(l.filter fun j=>((aops.getD j default).bL q)&&ib an i j).length<=(l.filter fun j=>((aops.getD j default).bL q)&&b.getD j false).length:=by
  intro l;induction l with
  |nil=>intro _;simp
  |cons x l c=>
   intro e;have c:=c (fun y r=>e y (by simp[r]));simp only[List.filter_cons];by_cases hp:(((aops.getD x default).bL q)&&ib an i x)=true
   ·have t:(((aops.getD x default).bL q)&&b.getD x false)=true:=by
     simp only[bM]at hp⊢;exact⟨hp.1,BW h hc p (e x (by simp)) hp.2⟩
    rw[if_pos hp,if_pos t];simpa using c
   ·rw[if_neg hp];split
    ·rw[bG];omega
    ·exact c
 exact key _ fun x e=>by rw[<-g];exact nE.1 e
def HE{q:Bool}{aops:Array ai}{b:Array Bool}{i:Nat}(p:((aops.getD i default).bL q)=true)(e:i<aops.size)(g:i<b.size)(h:b.getD i true=false):iI q aops (b.setIfInBounds i true)=iI q aops b+1:=by
 unfold iI;have key:∀(m:Nat),((ga m).filter fun j=>((aops.getD j default).bL q)&&(b.setIfInBounds i true).getD j false).length=
   ((ga m).filter fun j=>((aops.getD j default).bL q)&&b.getD j false).length+(if i<m then 1 else 0):=by
  intro m;induction m with
  |zero=>simp
  |succ m r=>
   simp only[List.range_succ,List.filter_append,bC,r,List.filter_cons,List.filter_nil];by_cases c:m=i
   ·subst c;have t:b.getD m false=false:=by
     have:=qn h;simpa using this
    have u:(b.setIfInBounds m true).getD m false=true:=by simp[g]
    rw[p,t,u];simp
   ·rw[mj false (dz c)];by_cases h1:i<m
    ·have h2:i<m+1:=by omega
     simp only[h1,h2,if_true];omega
    ·have h2:¬i<m+1:=by omega
     simp only[h1,h2,if_false];omega
 rw[key,if_pos e]
def pd(q:Bool)(P:Program)(w0:World)(ops:Array Oper)(an:Array Nat)(aops:Array ai)(F:Env->H->Prop):Nat->Array Bool->Env->H->List H->Prop
 |0,b,ρ,σ,_=>eV .any ops b=[]/\F ρ σ
 |fuel+1,b,ρ,σ,past=>(eV .any ops b=[]->F ρ σ)/\∀i∈eV .any ops b,∃o,aops[i]?=some o/\
   (((o.bL q)=true/\∃v σ1,fh P w0 σ o ρ v σ1/\pd q P w0 ops an aops F fuel (b.setIfInBounds i true) (ρ.put o.dst v) σ1 (σ::past))\/
    ((o.bL q)=false/\∃v,dN P w0 σ o ρ v/\(∀c∈past.take (past.length-ic q an aops i),dN P w0 c o ρ v)/\pd q P w0 ops an aops F fuel (b.setIfInBounds i true) (ρ.put o.dst v) σ past))
def xU{aops:Array ai}{i:Nat}{x:ai}(h:aops[i]?=some x):aops.getD i default=x:=by
 obtain⟨b,e⟩:=eu.1 h;simp[nB,b,e]
def BX{q:Bool}{ops:Array Oper}{an:Array Nat}{aops:Array ai}{F:Env->H->Prop}(hA:mD ops an=true)(X:aops.size=ops.size){i:Nat}{x:ai}(hx:aops[i]?=some x):∀(fuel:Nat) (b:Array Bool) (ρ:Env) (σ:H) (past:List H),
  (∀j oj,ops[j]?=some oj->j≠i->b.getD j true=false->(∀e∈oj.after,gd .any e=true->e.on≠i)->∃y,aops[j]?=some y/\jG x y=true)->
  (∀j,j<ops.size->j≠i->b.getD j true=false->((aops.getD j default).bL q)=true->ib an j i=true)->
  kl ops b->past.length=iI q aops b->i∈eV .any ops b->
  (((x.bL q)=true/\∃v σ1,fh P w0 σ x ρ v σ1/\pd q P w0 ops an aops F fuel (b.setIfInBounds i true) (ρ.put x.dst v) σ1 (σ::past))\/
   ((x.bL q)=false/\∃v,dN P w0 σ x ρ v/\(∀Y∈past.take (past.length-ic q an aops i),dN P w0 Y x ρ v)/\pd q P w0 ops an aops F fuel (b.setIfInBounds i true) (ρ.put x.dst v) σ past))->
  pd q P w0 ops an aops F (fuel+1) b ρ σ past
 |0,b,ρ,σ,past,_,_,_,_,T,H=>by
  refine⟨fun h=>(by rw[h]at T;cases T),fun j hj=>?_⟩;by_cases c:j=i
  ·subst c;exact⟨x,hx,H⟩
  ·have hj':=jx hj c;rcases H with⟨_,v,σ1,_,H⟩|⟨_,v,_,_,H⟩
   ·rw[H.1]at hj';cases hj'
   ·rw[H.1]at hj';cases hj'
 |fuel+1,b,ρ,σ,past,G,w,R,hlen,T,H=>by
  refine⟨fun h=>(by rw[h]at T;cases T),fun j hj=>?_⟩;by_cases c:j=i
  ·subst c;exact⟨x,hx,H⟩
  ·obtain⟨A,oj,hoj,hall⟩:=lx.1 hj;have hjs:=(eu.1 hoj).1;obtain⟨U,oi,hoi,_⟩:=lx.1 T;have his:=(eu.1 hoi).1;have hnot:∀e∈oj.after,gd .any e=true->e.on≠i:=fun e he hb heq=>qn U (heq▸hall e he hb);obtain⟨y,J,hap⟩:=G j oj hoj c A hnot;obtain⟨p1,p2,p3⟩:=xS hap;have E:(y.bL q)=false:=by
    cases E:(y.bL q)with
    |false=>rfl
    |true=>
     have:=w j hjs c A (by rw[xU J];exact E);exact absurd (BW hA R hj his this) (qn U)
   have D:∀k ok,ops[k]?=some ok->k≠i->(b.setIfInBounds j true).getD k true=false->(∀e∈ok.after,gd .any e=true->e.on≠i)->∃y,aops[k]?=some y/\jG x y=true:=fun k ok Z hki L hno=>by
    refine G k ok Z hki ?_ hno;by_cases M:j=k
    ·subst M;exact A
    ·rw[mj true M]at L;exact L
   have p:∀k,k<ops.size->k≠i->(b.setIfInBounds j true).getD k true=false->((aops.getD k default).bL q)=true->ib an k i=true:=fun k Z hki L hl=>by
    refine w k Z hki ?_ hl;by_cases M:j=k
    ·subst M;exact A
    ·rw[mj true M]at L;exact L
   have N:past.length=iI q aops (b.setIfInBounds j true):=by rw[xT (by rw[xU J];exact E)];exact hlen
   have hlo:=lo_le (q:=q) hA X R hj;refine⟨y,J,.inr ⟨E,?_⟩⟩;rcases H with⟨hxl,v,σ1,hy,H⟩|⟨hxl,v,hy,hpast,H⟩
   ·obtain⟨y',g,r⟩:=H.2 j (jx hj c);rw[J]at g;injection g with g;subst g;rcases r with⟨hl,_⟩|⟨_,u,hu,O,t⟩
    ·rw[E]at hl;cases hl
    ·have ht:(σ::past).take ((σ::past).length-ic q an aops j)=σ::past.take (past.length-ic q an aops j):=by
      rw[bG,show past.length+1-ic q an aops j=(past.length-ic q an aops j)+1 from by omega,jW]
     rw[ht]at O;refine⟨u,(O σ (by simp)).kj p1,fun Y Q=>(O Y (by simp[Q])).kj p1,?_⟩;refine BX hA X hx fuel (b.setIfInBounds j true) _ σ past D p (R.set hj) N (jx T (dz c)) (.inl ⟨hxl,v,σ1,hy.put p3,?_⟩);rw[xl _ _ c,put_comm (fun k Z e=>p2 k e Z)];exact t
   ·obtain⟨y',g,r⟩:=H.2 j (jx hj c);rw[J]at g;injection g with g;subst g;rcases r with⟨hl,_⟩|⟨_,u,hu,O,t⟩
    ·rw[E]at hl;cases hl
    ·refine⟨u,hu.kj p1,fun Y Q=>(O Y Q).kj p1,?_⟩;refine BX hA X hx fuel (b.setIfInBounds j true) _ σ past D p (R.set hj) N (jx T (dz c)) (.inr ⟨hxl,v,hy.put p3,fun Y Q=>(hpast Y Q).put p3,?_⟩);rw[xl _ _ c,put_comm (fun k Z e=>p2 k e Z)];exact t
def BY{q:Bool}{ops:Array Oper}{an:Array Nat}{aops:Array ai}{F:Env->H->Prop}(M:mD ops an=true)(p:aops.size=ops.size):∀(l:List Nat) (b:Array Bool) (ρ ρ':Env) (σ σ':H) (past c:List H),b.size=ops.size->pb q ops an aops l b=true->kl ops b->past.length=iI q aops b->
  ab P w0 (l.map fun k=>⟨aops.getD k default,((aops.getD k default).bL q),ic q an aops k⟩) ρ σ past ρ' σ' c->F ρ' σ'->pd q P w0 ops an aops F l.length b ρ σ past
 |[],b,ρ,ρ',σ,σ',past,c,_,G,_,_,hc,J=>by
  cases hc;exact⟨by simpa[pb]using G,J⟩
 |i::l,b,ρ,ρ',σ,σ',past,c,A,G,r,e,hc,J=>by
  simp only[pb,bM]at G;obtain⟨⟨⟨U,hf⟩,t⟩,D⟩:=G;have g:i∈eV .any ops b:=by simpa using U
  obtain⟨E,Y,N,_⟩:=lx.1 g;have X:=(eu.1 N).1;have R:aops[i]?=some (aops.getD i default):=by simp[nB,show i<aops.size from by omega]
  have h:∀j,j<ops.size->j≠i->b.getD j true=false->((aops.getD j default).bL q)=true->ib an j i=true:=by
   intro j hj u w hl;unfold BO at t;rw[cW]at t;have:=t j (nE.2 hj);rw[hl,w]at this;simpa[u]using this
  refine BX M p R l.length b ρ σ past (fun j Z hj u w O=>uC hf R hj u w O) h r e g ?_;simp only[ck]at hc;generalize T:((aops.getD i default).bL q)=L at hc;cases hc with
  |bL Q hc=>
   refine .inl ⟨rfl,_,_,Q,BY M p l _ _ ρ' _ σ' _ c (by simpa using A) D (r.set g) ?_ hc J⟩;rw[HE T (by omega) (by omega) E,bG,e]
  |quiet Q hp hc=>
   refine .inr ⟨rfl,_,Q,hp,BY M p l _ _ ρ' _ σ' _ c (by simpa using A) D (r.set g) ?_ hc J⟩;rw[xT T];exact e
def dt.agree{S t:H->Prop}{o:ai}{v:V}(h:∀k∈o.looks,ρ k=ρ' k)(y:dt P w0 S t o ρ v):dt P w0 S t o ρ' v:=by
 unfold ai.looks at h;simp only[cJ]at h;have hw:bQ ρ o.guard=bQ ρ' o.guard:=BV fun d want e=>h d (.inr (by rw[e];simp));cases y with
 |skip hg hS=>exact .skip (by rw[<-hw];exact hg) hS
 |step hg i=>exact .step (by rw[<-hw];exact hg) fun σ hσ=>by rw[<-BU fun k c=>h k (.inl c)];exact i σ hσ
 |vec hg g u w hc i=>
  rename_i x y olds news;rw[g]at h;simp only[bB.looks,cJ]at h;have j:x.ev ρ=x.ev ρ':=fj fun k c=>h k (.inl (.inl c));have p:y.ev ρ=y.ev ρ':=fj fun k c=>h k (.inl (.inr c));exact .vec (by rw[<-hw];exact hg) g (by rw[<-j];exact u) (by rw[<-p];exact w) hc i
 |call hg g hf hc=>
  rename_i f b A caps;rw[g]at h;simp only[bB.looks,cJ]at h;have r:f.ev ρ=f.ev ρ':=fj fun k c=>h k (.inl (.inl c));have D:b.map (·.ev ρ)=b.map (·.ev ρ'):=uy b fun k c=>h k (.inl (.inr c));exact .call (by rw[<-hw];exact hg) g (by rw[<-r];exact hf) (by rw[<-D];exact hc)
def dt.put{S b:H->Prop}{o:ai}{d:Option Nat}{u v:V}(h:∀e,d=some e->e∉o.looks)(y:dt P w0 S b o ρ v):dt P w0 S b o (ρ.put d u) v:=
 y.agree fun k c=>(uA fun e=>h k e c).symm
def dt.kj{S b:H->Prop}{o:ai}{d:Option Nat}{u v:V}(h:∀e,d=some e->e∉o.looks)(y:dt P w0 S b o (ρ.put d u) v):dt P w0 S b o ρ v:=
 y.agree fun k c=>uA fun e=>h k e c
def anyS(q:Bool)(P:Program)(w0:World)(ops:Array Oper)(an:Array Nat)(aops:Array ai)(F:Env->(H->Prop)->Prop):Nat->Array Bool->Env->(H->Prop)->List (H->Prop)->Prop
 |0,b,ρ,σ,_=>eV .any ops b=[]/\F ρ σ
 |fuel+1,b,ρ,σ,past=>(eV .any ops b=[]->F ρ σ)/\∀i∈eV .any ops b,∃o,aops[i]?=some o/\
   (((o.bL q)=true/\∃v σ1,dt P w0 σ σ1 o ρ v/\anyS q P w0 ops an aops F fuel (b.setIfInBounds i true) (ρ.put o.dst v) σ1 (σ::past))\/
    ((o.bL q)=false/\∃v,dt P w0 σ σ o ρ v/\(∀c∈past.take (past.length-ic q an aops i),dt P w0 c c o ρ v)/\anyS q P w0 ops an aops F fuel (b.setIfInBounds i true) (ρ.put o.dst v) σ past))
def BZ{q:Bool}{ops:Array Oper}{an:Array Nat}{aops:Array ai}{F:Env->(H->Prop)->Prop}(hA:mD ops an=true)(Y:aops.size=ops.size){i:Nat}{x:ai}(hx:aops[i]?=some x):∀(fuel:Nat) (b:Array Bool) (ρ:Env) (σ:H->Prop) (past:List (H->Prop)),
  (∀j oj,ops[j]?=some oj->j≠i->b.getD j true=false->(∀e∈oj.after,gd .any e=true->e.on≠i)->∃y,aops[j]?=some y/\jG x y=true)->
  (∀j,j<ops.size->j≠i->b.getD j true=false->((aops.getD j default).bL q)=true->ib an j i=true)->
  kl ops b->past.length=iI q aops b->i∈eV .any ops b->
  (((x.bL q)=true/\∃v σ1,dt P w0 σ σ1 x ρ v/\anyS q P w0 ops an aops F fuel (b.setIfInBounds i true) (ρ.put x.dst v) σ1 (σ::past))\/
   ((x.bL q)=false/\∃v,dt P w0 σ σ x ρ v/\(∀T∈past.take (past.length-ic q an aops i),dt P w0 T T x ρ v)/\anyS q P w0 ops an aops F fuel (b.setIfInBounds i true) (ρ.put x.dst v) σ past))->
  anyS q P w0 ops an aops F (fuel+1) b ρ σ past
 |0,b,ρ,σ,past,_,_,_,_,U,H=>by
  refine⟨fun h=>(by rw[h]at U;cases U),fun j hj=>?_⟩;by_cases c:j=i
  ·subst c;exact⟨x,hx,H⟩
  ·have hj':=jx hj c;rcases H with⟨_,v,σ1,_,H⟩|⟨_,v,_,_,H⟩
   ·rw[H.1]at hj';cases hj'
   ·rw[H.1]at hj';cases hj'
 |fuel+1,b,ρ,σ,past,G,w,R,hlen,U,H=>by
  refine⟨fun h=>(by rw[h]at U;cases U),fun j hj=>?_⟩;by_cases c:j=i
  ·subst c;exact⟨x,hx,H⟩
  ·obtain⟨A,oj,hoj,hall⟩:=lx.1 hj;have hjs:=(eu.1 hoj).1;obtain⟨X,oi,hoi,_⟩:=lx.1 U;have his:=(eu.1 hoi).1;have hnot:∀e∈oj.after,gd .any e=true->e.on≠i:=fun e he hb heq=>qn X (heq▸hall e he hb);obtain⟨y,J,hap⟩:=G j oj hoj c A hnot;obtain⟨p1,p2,p3⟩:=xS hap;have E:(y.bL q)=false:=by
    cases E:(y.bL q)with
    |false=>rfl
    |true=>
     have:=w j hjs c A (by rw[xU J];exact E);exact absurd (BW hA R hj his this) (qn X)
   have D:∀k ok,ops[k]?=some ok->k≠i->(b.setIfInBounds j true).getD k true=false->(∀e∈ok.after,gd .any e=true->e.on≠i)->∃y,aops[k]?=some y/\jG x y=true:=fun k ok Z hki L hno=>by
    refine G k ok Z hki ?_ hno;by_cases M:j=k
    ·subst M;exact A
    ·rw[mj true M]at L;exact L
   have p:∀k,k<ops.size->k≠i->(b.setIfInBounds j true).getD k true=false->((aops.getD k default).bL q)=true->ib an k i=true:=fun k Z hki L hl=>by
    refine w k Z hki ?_ hl;by_cases M:j=k
    ·subst M;exact A
    ·rw[mj true M]at L;exact L
   have N:past.length=iI q aops (b.setIfInBounds j true):=by rw[xT (by rw[xU J];exact E)];exact hlen
   have hlo:=lo_le (q:=q) hA Y R hj;refine⟨y,J,.inr ⟨E,?_⟩⟩;rcases H with⟨hxl,v,σ1,hy,H⟩|⟨hxl,v,hy,hpast,H⟩
   ·obtain⟨y',g,r⟩:=H.2 j (jx hj c);rw[J]at g;injection g with g;subst g;rcases r with⟨hl,_⟩|⟨_,u,hu,O,t⟩
    ·rw[E]at hl;cases hl
    ·have ht:(σ::past).take ((σ::past).length-ic q an aops j)=σ::past.take (past.length-ic q an aops j):=by
      rw[bG,show past.length+1-ic q an aops j=(past.length-ic q an aops j)+1 from by omega,jW]
     rw[ht]at O;refine⟨u,(O σ (by simp)).kj p1,fun T Q=>(O T (by simp[Q])).kj p1,?_⟩;refine BZ hA Y hx fuel (b.setIfInBounds j true) _ σ past D p (R.set hj) N (jx U (dz c)) (.inl ⟨hxl,v,σ1,hy.put p3,?_⟩);rw[xl _ _ c,put_comm (fun k Z e=>p2 k e Z)];exact t
   ·obtain⟨y',g,r⟩:=H.2 j (jx hj c);rw[J]at g;injection g with g;subst g;rcases r with⟨hl,_⟩|⟨_,u,hu,O,t⟩
    ·rw[E]at hl;cases hl
    ·refine⟨u,hu.kj p1,fun T Q=>(O T Q).kj p1,?_⟩;refine BZ hA Y hx fuel (b.setIfInBounds j true) _ σ past D p (R.set hj) N (jx U (dz c)) (.inr ⟨hxl,v,hy.put p3,fun T Q=>(hpast T Q).put p3,?_⟩);rw[xl _ _ c,put_comm (fun k Z e=>p2 k e Z)];exact t
def B0{q:Bool}{ops:Array Oper}{an:Array Nat}{aops:Array ai}{F:Env->(H->Prop)->Prop}(M:mD ops an=true)(p:aops.size=ops.size):∀(l:List Nat) (b:Array Bool) (ρ ρ':Env) (σ σ':H->Prop) (past c:List (H->Prop)),b.size=ops.size->pb q ops an aops l b=true->kl ops b->past.length=iI q aops b->
  nL P w0 (l.map fun k=>⟨aops.getD k default,((aops.getD k default).bL q),ic q an aops k⟩) ρ σ past ρ' σ' c->F ρ' σ'->anyS q P w0 ops an aops F l.length b ρ σ past
 |[],b,ρ,ρ',σ,σ',past,c,_,G,_,_,hc,J=>by
  cases hc;exact⟨by simpa[pb]using G,J⟩
 |i::l,b,ρ,ρ',σ,σ',past,c,A,G,r,e,hc,J=>by
  simp only[pb,bM]at G;obtain⟨⟨⟨U,hf⟩,t⟩,D⟩:=G;have g:i∈eV .any ops b:=by simpa using U
  obtain⟨E,Y,N,_⟩:=lx.1 g;have X:=(eu.1 N).1;have R:aops[i]?=some (aops.getD i default):=by simp[nB,show i<aops.size from by omega]
  have h:∀j,j<ops.size->j≠i->b.getD j true=false->((aops.getD j default).bL q)=true->ib an j i=true:=by
   intro j hj u w hl;unfold BO at t;rw[cW]at t;have:=t j (nE.2 hj);rw[hl,w]at this;simpa[u]using this
  refine BZ M p R l.length b ρ σ past (fun j Z hj u w O=>uC hf R hj u w O) h r e g ?_;simp only[ck]at hc;generalize T:((aops.getD i default).bL q)=L at hc;cases hc with
  |bL Q hc=>
   refine .inl ⟨rfl,_,_,Q,B0 M p l _ _ ρ' _ σ' _ c (by simpa using A) D (r.set g) ?_ hc J⟩;rw[HE T (by omega) (by omega) E,bG,e]
  |quiet Q hp hc=>
   refine .inr ⟨rfl,_,Q,hp,B0 M p l _ _ ρ' _ σ' _ c (by simpa using A) D (r.set g) ?_ hc J⟩;rw[xT T];exact e
def YG.put{l0:List ai}{S:(Nat->Bool)->H->Prop}{k:Nat}{o:ai}{d:Option Nat}{u v:V}(h:∀e,d=some e->e∉o.looks)(y:YG P w0 l0 S k o ρ v):YG P w0 l0 S k o (ρ.put d u) v:=fun L a b c=>(y L a b c).put h
def YG.kj{l0:List ai}{S:(Nat->Bool)->H->Prop}{k:Nat}{o:ai}{d:Option Nat}{u v:V}(h:∀e,d=some e->e∉o.looks)(y:YG P w0 l0 S k o (ρ.put d u) v):YG P w0 l0 S k o ρ v:=fun L a b c=>(y L a b c).kj h
def uD(P:Program)(w0:World)(l0:List ai)(S:(Nat->Bool)->H->Prop)(ops:Array Oper)(aops:Array ai)(F:Array Bool->Env->Prop):Nat->Array Bool->Env->Prop
 |0,b,ρ=>eV .any ops b=[]/\F b ρ
 |fuel+1,b,ρ=>(eV .any ops b=[]->F b ρ)/\∀i∈eV .any ops b,∃o v,aops[i]?=some o/\YG P w0 l0 S i o ρ v/\uD P w0 l0 S ops aops F fuel (b.setIfInBounds i true) (ρ.put o.dst v)
def HG{l0:List ai}{S:(Nat->Bool)->H->Prop}{ops:Array Oper}{aops:Array ai}{F:Array Bool->Env->Prop}{i:Nat}{x:ai}{v:V}(N:aops[i]?=some x):∀(fuel:Nat) (b:Array Bool) (ρ:Env),
  (∀j A,ops[j]?=some A->j≠i->b.getD j true=false->(∀e∈A.after,gd .any e=true->e.on≠i)->∃y,aops[j]?=some y/\jG x y=true)->
  i∈eV .any ops b->YG P w0 l0 S i x ρ v->uD P w0 l0 S ops aops F fuel (b.setIfInBounds i true) (ρ.put x.dst v)->uD P w0 l0 S ops aops F (fuel+1) b ρ
 |0,b,ρ,_,w,M,H=>by
  refine⟨fun h=>(by rw[h]at w;cases w),fun j hj=>?_⟩;by_cases c:j=i
  ·subst c;exact⟨x,v,N,M,H⟩
  ·have:=jx hj c;rw[H.1]at this;cases this
 |fuel+1,b,ρ,g,w,M,H=>by
  refine⟨fun h=>(by rw[h]at w;cases w),fun j hj=>?_⟩;by_cases c:j=i
  ·subst c;exact⟨x,v,N,M,H⟩
  ·obtain⟨y,u,D,O,Q⟩:=H.2 j (jx hj c);obtain⟨t,A,R,E⟩:=lx.1 hj;have G:∀e∈A.after,gd .any e=true->e.on≠i:=fun e he hb T=>qn (lx.1 w).1 (T▸E e he hb);obtain⟨y',p,U⟩:=g j A R c t G;rw[D]at p;injection p with p;subst p;obtain⟨p1,p2,p3⟩:=xS U;refine⟨y,u,D,O.kj p1,?_⟩;have r:∀k ok,ops[k]?=some ok->k≠i->(b.setIfInBounds j true).getD k true=false->(∀e∈ok.after,gd .any e=true->e.on≠i)->∃y,aops[k]?=some y/\jG x y=true:=fun k ok X Y J Z=>by
    refine g k ok X Y ?_ Z;by_cases L:j=k
    ·subst L;exact t
    ·rw[mj true L]at J;exact J
   refine HG N fuel (b.setIfInBounds j true) _ r (jx w (dz c)) (M.put p3) ?_;rw[xl _ _ c,put_comm (fun k X e=>p2 k e X)];exact Q
def HI{l0:List ai}{S:(Nat->Bool)->H->Prop}{ops:Array Oper}{aops:Array ai}{F:Array Bool->Env->Prop}:∀(l:List ai) (k:Nat) (b:Array Bool) (ρ ρ':Env),(∀j,l[j]?=aops[k+j]?)->b.size=aops.size->(∀j,j<k->b.getD j false=true)->k+l.length=aops.size->lG ops aops l.length k b=true->nM P w0 l0 S k l ρ ρ'->(∀c:Array Bool,(∀j,j<aops.size->c.getD j false=true)->F c ρ')->
  uD P w0 l0 S ops aops F l.length b ρ
 |[],k,b,ρ,ρ',_,_,hd,g,h,hc,i=>by
  cases hc;exact⟨by simpa[lG]using h,i b fun j hj=>hd j (by simp at g;omega)⟩
 |o::l,k,b,ρ,ρ',hl,p,hd,g,h,hc,i=>by
  have h0:aops[k]?=some o:=by simpa using(hl 0).symm
  simp only[bG,lG,bM]at h;obtain⟨⟨A,hf⟩,r⟩:=h;cases hc with
  |cons D hc=>
   refine HG h0 l.length b ρ (fun j E hj t u w=>uC hf h0 hj t u w) (by simpa using A) D
    (HI l (k+1) _ _ ρ' (fun j=>by have:=hl (j+1);simpa[jV,Nat.add_comm 1 j]using this) (by simpa using p) (fun j hj=>?_) (by simp at g;omega) r hc i)
   by_cases e:k=j
   ·subst e;have:k<b.size:=by simp at g;omega
    simp[iV,this]
   ·rw[mj false e];exact hd j (by omega)
def HJ{ops:Array Oper}{aops:Array ai}(p:aops.size=ops.size):∀(fuel k:Nat) (b:Array Bool),lG ops aops fuel k b=true->(∀i,k<=i->i<ops.size->b.getD i true=false)->fuel+k=ops.size->∀j i,k<=j->j<i->∀o,ops[i]?=some o->
  jG (aops.getD j default) (aops.getD i default)=true\/∃e∈o.after,gd .any e=true/\e.on=j
 |0,k,b,_,_,E,j,i,h1,h2,o,g=>by
  have:=(eu.1 g).1;omega
 |fuel+1,k,b,A,h,E,j,i,h1,h2,o,g=>by
  have F:=(eu.1 g).1;simp only[lG,bM]at A;obtain⟨⟨P,hf⟩,r⟩:=A;by_cases t:j=k
  ·subst t;by_cases D:∃e∈o.after,gd .any e=true/\e.on=j
   ·exact .inr D
   ·have G:aops[j]?=some (aops.getD j default):=by simp[nB,show j<aops.size from by omega]
    have J:aops[i]?=some (aops.getD i default):=by simp[nB,show i<aops.size from by omega]
    obtain⟨y,c,u⟩:=uC hf G g (by omega) (h i (by omega) F) (fun e L M w=>D ⟨e,L,M,w⟩);rw[J]at c;injection c with c;rw[c];exact .inl u
  ·refine HJ p fuel (k+1) _ r (fun N Q O=>?_) (by omega) j i (by omega) h2 o g;rw[mj true (by omega)];exact h N (by omega) O
end
section
variable {P:Program} {w0 w w':World} {κ κ0:K} {σ σ':H} {a:Act} {ρ ρ':Env} {n n0:Nat} {Q:St->Prop} {s:St}
def B1{F:ah->bB}{x:Operand}{f:ah}{b:List ah}(c:∀y,F y≠ .call f b)(h:dH F x=some (.call f b)):False:=by
 obtain⟨y,_,e⟩:=eN h;exact c y e.symm
def B2{F:ah->ah->bB}{x c:Operand}{f:ah}{b:List ah}(g:∀y z,F y z≠ .call f b)(h:eA F x c=some (.call f b)):False:=by
 obtain⟨y,z,_,_,e⟩:=jf h;exact g y z e.symm
def R6{b:Builtin}{args:List Operand}{g:List TypeId}{f:ah}{c:List ah}(h:mC P b args g=some (.call f c)):False:=by
 unfold mC at h
 repeat' split at h
 all_goals first
  |(cases h;done)
  |exact B1 (by intro y e;cases e) h
  |exact B2 (by intro y z e;cases e) h
def R7{p:Op}{f:ah}{i:List ah}(h:bp P p=some (.call f i)):∃f' args j,p= .call {callee:=.value f',args,argTypes:=j}/\bK f'=some f/\args.toList.mapM bK=some i:=by
 cases p with
 |call c=>
  obtain⟨callee,args,j⟩:=c;cases callee with
  |value f'=>
   simp only[bp]at h;split at h
   ·rename_i h1 h2;injection h with h;injection h with u w;subst u w;exact⟨f',args,j,rfl,h1,h2⟩
   ·cases h
  |builtin b=>exact absurd h (fun h=>R6 h)
  |invoke r m=>cases h
 |binOp p t x y A=>
  exfalso;simp only[bp,o9,ui]at h
  repeat' split at h
  all_goals first
   |(cases h;done)
   |exact B1 (by intro y e;cases e) h
   |exact B2 (by intro y z e;cases e) h
 |makeFunc fn first caps=>
  exfalso;obtain⟨first⟩:=first
  cases fn with
  |func g=>
   cases first with
   |nil=>
    simp only[bp]at h;split at h
    ·injection h with h;cases h
    ·cases h
   |cons x l=>simp[bp]at h
  |_=>simp[bp]at h
 |makeSlice t l c=>
  obtain⟨_,_,_,_,e⟩:=Bv (show ke P t l c=_ from h);cases e
 |_=>
  exfalso;simp only[bp]at h
  repeat' split at h
  all_goals first
   |(cases h;done)
   |exact B1 (by intro y e;cases e) h
   |exact B2 (by intro y z e;cases e) h
def Fits.append{l r:List V}{xs ys:List Value}(h:Fits κ l xs)(k:Fits κ r ys):Fits κ (l++r) (xs++ys):=by
 refine⟨by rw[bC,bC,h.1,k.1],fun j hj=>?_⟩;rw[cx];by_cases b:j<l.length
 ·have:=h.2 j b;rw[cx]at this;rw[cr (by rw[h.1];exact b)];simpa[b]using this
 ·have c:j-l.length<r.length:=by simp at hj;omega
  have:=k.2 (j-l.length) c;rw[cx]at this;rw[da (by rw[h.1];omega),h.1];simpa[dY (show l.length<=j by omega)]using this
def Fits.args(g:cj κ ρ a){xs:List Operand}{b:List ah}(h:xs.mapM bK=some b):Fits κ (b.map (·.ev ρ)) (xs.map a.eval):=by
 obtain⟨h1,h2⟩:=mapM_some h;refine⟨by simp[h1],fun j hj=>?_⟩;have e:j<b.length:=by simpa using hj
 have c:j<xs.length:=by omega
 rw[iF (by simpa using c),eI,eI];exact bN g (h2 j c e)
def RV.R8{f:FuncId}{caps:List V}{v:Value}(r:RV κ (.fn f caps) v):∃vs:List Value,v= .func (.func f) #[] vs.toArray/\Fits κ caps vs:=by
 cases r with|fn h h1=>exact⟨_,rfl,h,h1⟩
def uE{o:Oper}{f:ah}{b:List ah}{c:FuncId}{caps:List V}(r:bp P o.op=some (.call f b))(hf:f.ev ρ= .fn c caps)(j:cj κ ρ a)(h:Enters P c):
  ∃vs:List Value,(execOp a.eval o).run P w= .ok (.enter c vs.toArray) w/\Fits κ (b.map (·.ev ρ)++caps) vs:=by
 obtain⟨f',args,t,u,A,g⟩:=R7 r;have p:=bN j A;rw[hf]at p;obtain⟨cs,D,i⟩:=p.R8;refine⟨args.toList.map a.eval++cs,?_,(Fits.args j g).append i⟩;have e:(args.toList.map a.eval++cs).toArray=args.map a.eval++cs.toArray:=by apply oR;simp
 rw[e];have:=h (args.map a.eval++cs.toArray) w;simp only[execOp,u,resolve,D,Deferred.ofValue,jU,kK,kL,invoke];rw[show(#[]:Array Value)++Array.map a.eval args=Array.map a.eval args from by simp];exact this
def fQ{ops:Array Oper}{o:Oper}{g:Option (Nat×Bool)}{b:Bool}(hg:xP ops n o.guard=some g)(hw:bQ ρ g=some b)(i:cj κ ρ a)(r:a.tmps.size=n):Region.wanted o (yielded ops a.tmps)=b:=by
 unfold xP at hg;unfold Region.wanted;cases h:o.guard with
 |none=>
  rw[h]at hg;injection hg with hg;subst hg;simp only[bQ]at hw;injection hw
 |some p=>
  obtain⟨j,want⟩:=p;rw[h]at hg;simp only at hg;split at hg
  ·rename_i d hd;split at hg
   ·rename_i t;injection hg with hg;subst hg;have e:=i d;have bx:a.tmps[d]?=some (a.tmps.getD d undef):=by
     have:d<a.tmps.size:=by rw[r];assumption
     simp[this,nB]
    simp only[bQ]at hw;simp only[yielded,hd,Option.bind_some,bx];split at hw
    ·rename_i c hc;injection hw with hw;rw[hc]at e;rw[e.sf,<-hw];cases c<;>cases want<;>rfl
    ·rename_i hc;injection hw with hw;rw[hc]at e;generalize a.tmps.getD d undef=u at e;cases e;rw[<-hw];rfl
    ·cases hw
   ·cases hg
  ·cases hg
def Rel.put(h:Rel w0 κ0 n κ ⟨ρ,σ⟩ a w){d:Option Nat}{v:V}{v':Value}(hd:uv n d=true)(e:RV κ v v'):Rel w0 κ0 n κ ⟨ρ.put d v,σ⟩ (a.put d v') w:=by
 cases d with
 |none=>exact h
 |some d=>
  have b:d<n:=by simpa[uv]using hd
  refine⟨h.dk,fun k=>?_,by simpa[Act.put]using h.size,h.defers,h.le⟩;simp only[Env.put,Act.put];by_cases c:k=d
  ·subst c;rw[if_pos rfl];have:k<a.tmps.size:=by rw[h.size];exact b
   simpa[nB,this]using e
  ·rw[if_neg c];have:=h.env k;simpa[iV,Array.getElem?_setIfInBounds_ne (dz c)]using this
def Rel.next(h:Rel w0 κ0 n κ ⟨ρ,σ⟩ a w){κ':K}{d:Option Nat}{v:V}{v':Value}(hd:uv n d=true)(b:κ.le κ')(c:aB w0 κ' σ' w')(e:RV κ' v v'):Rel w0 κ0 n κ' ⟨ρ.put d v,σ'⟩ (a.put d v') w':=by
 have:Rel w0 κ0 n κ' ⟨ρ,σ'⟩ a w':=⟨c,h.env.mono b,h.size,h.defers,K.le_trans h.le b⟩;exact this.put hd e
def xV(P:Program)(w0:World)(n0:Nat)(Q:St->Prop)(κ0:K)(n:Nat)(k:List It):Exit->Act->World->Prop:=fun e a w=>
 ∃s κ,Rel w0 κ0 n κ s a w/\(match e with
  | .normal=>W P w0 n0 Q k s
  | .exit id=>∃b,jh id k=some b/\W P w0 n0 Q b s
  | .ret=>Q s
  |_=>False)
def uF{ops:Array Oper}{o:Oper}{x:ai}(h:uw P n ops o=some x):∃i g,(i= .bad\/bp P o.op=some i)/\xP ops n o.guard=some g/\uv n o.dst=true/\x=⟨o.dst,i,g⟩:=by
 unfold uw at h;split at h
 ·rename_i g hg;split at h
  ·rename_i hd;injection h with h;refine⟨_,g,?_,hg,hd,h.symm⟩;cases b:bp P o.op with
   |none=>exact .inl rfl
   |some i=>exact .inr rfl
  ·cases h
 ·cases h
def R9{p:Op}{i:Bool}{x:ah}(h:bp P p=some (.jd i x)):∃t j e u y,p= .binOp (if i then .neq else .eql) t j y u/\P.underlying t=some (.slice e)/\Bu y=true/\bK j=some x:=by
 cases p with
 |binOp p t j y u=>
  simp only[bp]at h;split at h
  case h_7 e D=>
   split at h
   ·rename_i E;unfold ui at h;split at h
    ·obtain⟨z,w,A⟩:=eN h;injection A with h1 h2;subst h1 h2;exact⟨t,j,e,u,y,rfl,D,E,w⟩
    ·obtain⟨z,w,A⟩:=eN h;injection A with h1 h2;subst h1 h2;exact⟨t,j,e,u,y,rfl,D,E,w⟩
    ·cases h
   ·cases h
  all_goals exfalso
  all_goals (try simp only[o9,dH,eA]at h)
  all_goals repeat' split at h
  all_goals first|(cases h;done)|(injection h with h;cases h;done)
 |call c=>
  exfalso;obtain⟨callee,args,F⟩:=c;cases callee with
  |value f'=>
   simp only[bp]at h;split at h
   ·injection h with h;cases h
   ·cases h
  |builtin b=>
   simp only[bp,mC,dH,eA]at h
   repeat' split at h
   all_goals first|(cases h;done)|(injection h with h;cases h;done)
  |invoke r m=>cases h
 |makeFunc fn first caps=>
  exfalso;obtain⟨first⟩:=first
  cases fn with
  |func g=>
   cases first with
   |nil=>
    simp only[bp]at h;split at h
    ·injection h with h;cases h
    ·cases h
   |cons x l=>simp[bp]at h
  |_=>simp[bp]at h
 |makeSlice t l c=>
  obtain⟨_,_,_,_,e⟩:=Bv (show ke P t l c=_ from h);cases e
 |_=>
  exfalso;simp only[bp,dH,eA]at h
  repeat' split at h
  all_goals first|(cases h;done)|(injection h with h;cases h;done)
def Sa{o:Oper}{c:Bool}{x:ah}{r:List (List C)}(F:bp P o.op=some (.jd c x))(G:(x.ev ρ).rows=some r)(J:cj κ ρ a):
  ∃b:Bool,(b=true->r=[])/\(execOp a.eval o).run P w= .ok (.value (.bool (if c then !b else b))) w:=by
 obtain⟨t,R,e,T,y,L,D,g,i⟩:=R9 F;have M:=(bN J i).lF G;obtain⟨s,A,cap,xs,N,h0,h1,h2,U,O,X⟩:=M.kT;have j:y= .const (.slice none 0 0):=by
  unfold Bu at g;split at g
  ·rfl
  ·cases g
 subst j;refine⟨A.isNone,fun E=>?_,?_⟩
 ·cases u:r with
  |nil=>rfl
  |cons q l=>
   obtain⟨b,p,Q,_⟩:=O (by rw[u];simp);rw[Q]at E;cases E
 ·refine qi L rfl N (v:=.slice none 0 0) rfl ?_ ?_ (fun Y=>⟨fun h=>by subst h;rfl,fun h=>by subst h;rfl⟩)
  ·unfold eqGuard;split<;>simp
  ·have:∀d,(gW (d+1) t (.slice A r.length cap) (.slice none 0 0)).run P w= .ok A.isNone w:=fun d=>by
    cases A with
    |none=>simp[gW,cA D]
    |some p=>simp[gW,cA D]
   exact this 9999
def xW{j:Op}{e size bytes:Nat}{x y:ah}(h:bp P j=some (.app e size bytes x y)):∃t p A i z,j= .call {callee:=.builtin .append,args:=#[p,A],argTypes:=#[t,t]}/\P.underlying t=some (.slice e)/\P.info? e=some i/\i.zero=some z/\z.cells.size=i.size/\size=i.size/\bytes=i.bytes/\bK p=some x/\bK A=some y:=by
 cases j with
 |binOp j t p y F=>
  exfalso;simp only[bp]at h
  repeat' split at h
  all_goals (try simp only[o9,ui,dH,eA]at h)
  all_goals repeat' split at h
  all_goals first|(cases h;done)|(injection h with h;cases h;done)
 |call c=>
  obtain⟨callee,args,u⟩:=c;cases callee with
  |value f'=>
   exfalso;simp only[bp]at h;split at h
   ·injection h with h;cases h
   ·cases h
  |builtin b=>
   simp only[bp]at h;unfold mC at h;split at h
   case h_2 D E t F h1 h2=>
    split at h
    ·rename_i w;subst w;split at h
     ·rename_i Z G;split at h
      ·rename_i i J;split at h
       ·rename_i z L;split at h
        ·rename_i M;unfold eA at h;split at h
         ·rename_i a b N O;injection h with h;injection h with Q R T U X;subst Q R T U X;have ha:args=#[D,E]:=by apply oR;exact h1
          have Y:u=#[t,t]:=by apply oR;exact h2
          subst ha Y;exact⟨t,D,E,i,z,rfl,G,J,L,M.1,rfl,rfl,N,O⟩
         ·cases h
        ·cases h
       ·cases h
      ·cases h
     ·cases h
    ·exfalso;unfold eA at h
     repeat' split at h
     all_goals first|(cases h;done)|(injection h with h;cases h;done)
   all_goals exfalso
   all_goals (try simp only[dH,eA]at h)
   all_goals repeat' split at h
   all_goals first|(cases h;done)|(injection h with h;cases h;done)
  |invoke r m=>cases h
 |makeFunc fn first caps=>
  exfalso;obtain⟨first⟩:=first
  cases fn with
  |func g=>
   cases first with
   |nil=>
    simp only[bp]at h;split at h
    ·injection h with h;cases h
    ·cases h
   |cons x l=>simp[bp]at h
  |_=>simp[bp]at h
 |makeSlice t l c=>
  obtain⟨_,_,_,_,e⟩:=Bv (show ke P t l c=_ from h);cases e
 |_=>
  exfalso;simp only[bp,dH,eA]at h
  repeat' split at h
  all_goals first|(cases h;done)|(injection h with h;cases h;done)
def HK{ops:Array Oper}{o:Oper}{l:List Oper}{r:List ai}(h:jH P n ops (o::l)=some r):∃x b,uw P n ops o=some x/\jH P n ops l=some b/\r=x::b:=by
 simp only[jH]at h;split at h
 ·rename_i x b c e;injection h with h;exact⟨x,b,c,e,h.symm⟩
 ·cases h
def sj(hn:κ0.n=n0){ops:Array Oper}{k:List It}:∀(l:List Oper) (r:List ai),jH P n ops l=some r->∀{s:St} {κ:K} {a:Act} {w:World},W P w0 n0 Q (.ops r::k) s->Rel w0 κ0 n κ s a w->
  wpList P ops (xV P w0 n0 Q κ0 n k) l a w
 |[],r,h,s,κ,a,w,X,Y=>by
  simp only[jH]at h;injection h with h;subst h;obtain⟨t,hl,Z⟩:=X.R4;obtain⟨κ',hR'⟩:=hl w0 κ0 n κ a w hn Y;exact⟨t,κ',hR',Z⟩
 |o::l,r,h,s,κ,a,w,X,Y=>by
  obtain⟨x,N,hx,O,rfl⟩:=HK h;obtain⟨i,g,F,hg,hd,rfl⟩:=uF hx;obtain⟨t,hl,R⟩:=X.R3;obtain⟨κ1,p⟩:=hl w0 κ0 n κ a w hn Y;obtain⟨ρ,σ⟩:=t;unfold wpList;cases R with
  |skip D L=>
   have hw:=fQ (o:=o) hg D p.env p.size;rw[hw];simp only[iW,if_false];exact sj hn l N O L (p.put hd .void)
  |step D hs L=>
   have hw:=fQ (o:=o) hg D p.env p.size;rw[hw];simp only[if_true];refine .inl ?_;have F:bp P o.op=some i:=F.resolve_left (fun e=>by rw[e]at hs;cases hs);obtain⟨κ',v',w',j,G,E,T⟩:=ur F hs p.dk p.env;have A:=sj hn l N O L (p.next hd G E T);unfold jy;rcases j with j|⟨j,rfl⟩
   ·rw[j];exact A
   ·rw[j];exact A
  |call D u hf hc L=>
   have hw:=fQ (o:=o) hg D p.env p.size;rw[hw];simp only[if_true];refine .inl ?_
   try simp only at u
   have F:bp P o.op=some i:=F.resolve_left (fun e=>by rw[e]at u;cases u);subst u;obtain⟨vs,j,U⟩:=uE (w:=w) F hf p.env hc.enters;unfold jy;rw[j];refine(hc.run κ1 w vs p.dk U).mono ?_;rintro e w' ⟨v,d,σ',κ',rfl,hRd,G,E,T⟩;exact sj hn l N O (L d σ' hRd) (p.next hd G E T)
  |fork D u M L=>
   have hw:=fQ (o:=o) hg D p.env p.size;rw[hw];simp only[if_true];refine .inl ?_
   try simp only at u
   have F:bp P o.op=some i:=F.resolve_left (fun e=>by rw[e]at u;cases u);subst u;obtain⟨b,hb,j⟩:=Sa (w:=w) F M p.env;unfold jy;rw[j];exact sj hn l N O (L b hb) (p.put hd (.c (.bool _)))
  |vec D u M hy' J L=>
   have hw:=fQ (o:=o) hg D p.env p.size;rw[hw];simp only[if_true];refine .inl ?_
   try simp only at u
   have F:bp P o.op=some i:=F.resolve_left (fun e=>by rw[e]at u;cases u);subst u;obtain⟨t,x1,y1,inf,z,q1,q2,q3,q4,q5,q6,q7,q8,q9⟩:=xW F;subst q6 q7;obtain⟨κ',v',w',j,G,E,T⟩:=xM (w:=w) q1 q2 q3 q4 q5 q8 q9 M hy' J.1 J.2.1 J.2.2.1 J.2.2.2.1 J.2.2.2.2 p.dk p.env;have A:=sj hn l N O L (p.next hd G E T);unfold jy;rcases j with j|⟨j,rfl⟩
   ·rw[j];exact A
   ·rw[j];exact A
def pe{ops:Array Oper}:∀{l:List Oper} {r:List ai},jH P n ops l=some r->∀i:Nat,(∀x:ai,r[i]?=some x->∃o,l[i]?=some o/\uw P n ops o=some x)/\r.length=l.length
 |[],r,h,i=>by simp only[jH]at h;injection h with h;subst h;exact⟨fun x c=>by simp at c,rfl⟩
 |o::l,r,h,i=>by
  obtain⟨x,j,c,g,rfl⟩:=HK h;have e:=pe g;refine⟨fun y b=>?_,by simp[(e 0).2]⟩;cases i with
  |zero=>simp at b;subst b;exact⟨o,rfl,c⟩
  |succ i=>simp at b;simpa using(e i).1 y b
def xX{ops:Array Oper}{aops:List ai}{F:Env->Prop}{U:Exit->Act->World->Prop}(N:jH P n ops ops.toList=some aops)
  (G:∀ρ κ a w,F ρ->Rel w0 κ0 n κ ⟨ρ,σ⟩ a w->U .normal a w):∀(fuel:Nat) (b:Array Bool) (ρ:Env) (κ:K) (a:Act) (w:World),Rel w0 κ0 n κ ⟨ρ,σ⟩ a w->uB P w0 σ ops aops.toArray F fuel b ρ->
  wpAny P .any ops U fuel b a w
 |0,b,ρ,κ,a,w,p,h=>⟨h.1,G ρ κ a w h.2 p⟩
 |fuel+1,b,ρ,κ,a,w,p,h=>by
  refine⟨fun h0=>G ρ κ a w (h.1 h0) p,fun i X=>?_⟩;obtain⟨x,v,Y,Z,r⟩:=h.2 i X;obtain⟨o,ho,J⟩:=(pe N i).1 x (by simpa using Y);have O:ops[i]?=some o:=by simpa using ho
  obtain⟨L,g,j,hg,hd,rfl⟩:=uF J;unfold wpOp;simp only[O];cases Z with
  |skip t=>
   have hw:=fQ (o:=o) hg t p.env p.size;rw[hw];simp only[iW,if_false];exact xX N G fuel _ _ κ _ w (p.put hd .void) r
  |step t Q=>
   have hw:=fQ (o:=o) hg t p.env p.size;rw[hw];simp only[if_true];refine .inl ?_;have j:bp P o.op=some L:=j.resolve_left (fun e=>by rw[e]at Q;cases Q);obtain⟨κ',v',w',c,D,u,R⟩:=ur j Q p.dk p.env;have:=xX N G fuel _ _ κ' _ w' (p.next hd D u R) r;unfold jy;rcases c with c|⟨c,rfl⟩
   ·rw[c];exact this
   ·rw[c];exact this
  |call t A hf hc=>
   have hw:=fQ (o:=o) hg t p.env p.size;rw[hw];simp only[if_true];refine .inl ?_
   try simp only at A
   have j:bp P o.op=some L:=j.resolve_left (fun e=>by rw[e]at A;cases A);subst A;obtain⟨vs,c,M⟩:=uE (w:=w) j hf p.env hc.enters;unfold jy;rw[c];refine(hc.run κ w vs p.dk M).mono ?_;rintro e w' ⟨v',d,σ',κ',rfl,⟨T,E⟩,D,u,R⟩;have E:=E.symm;subst E;subst T;exact xX N G fuel _ _ κ' _ w' (p.next hd D u R) r
def uG{q:Bool}{ops:Array Oper}{an:Array Nat}{aops:List ai}{F:Env->H->Prop}{Qc:Exit->Act->World->Prop}(O:jH P n ops ops.toList=some aops)
  (N:∀ρ σ κ a w,F ρ σ->Rel w0 κ0 n κ ⟨ρ,σ⟩ a w->Qc .normal a w):∀(fuel:Nat) (j:Array Bool) (ρ:Env) (σ:H) (past:List H) (κ:K) (a:Act) (w:World),Rel w0 κ0 n κ ⟨ρ,σ⟩ a w->pd q P w0 ops an aops.toArray F fuel j ρ σ past->
  wpAny P .any ops Qc fuel j a w
 |0,j,ρ,σ,past,κ,a,w,r,h=>⟨h.1,N ρ σ κ a w h.2 r⟩
 |fuel+1,j,ρ,σ,past,κ,a,w,r,h=>by
  refine⟨fun h0=>N ρ σ κ a w (h.1 h0) r,fun i Q=>?_⟩;obtain⟨x,hx,D⟩:=h.2 i Q;have D:∃v σ1 G,fh P w0 σ x ρ v σ1/\pd q P w0 ops an aops.toArray F fuel (j.setIfInBounds i true) (ρ.put x.dst v) σ1 G:=by
   rcases D with⟨_,v,σ1,R,hn⟩|⟨_,v,R,_,hn⟩
   ·exact⟨v,σ1,_,R,hn⟩
   ·refine⟨v,σ,_,?_,hn⟩;cases R with
    |skip hg=>exact .skip hg
    |step hg T=>exact .step hg T
    |call hg Q hf hc=>exact .call hg Q hf hc
  obtain⟨v,σ1,G,R,c⟩:=D;obtain⟨o,ho,U⟩:=(pe O i).1 x (by simpa using hx);have Z:ops[i]?=some o:=by simpa using ho
  obtain⟨M,g,p,hg,hd,rfl⟩:=uF U;unfold wpOp;simp only[Z];cases R with
  |skip E=>
   have hw:=fQ (o:=o) hg E r.env r.size;rw[hw];simp only[iW,if_false];exact uG O N fuel _ _ _ _ κ _ w (r.put hd .void) c
  |step E T=>
   have hw:=fQ (o:=o) hg E r.env r.size;rw[hw];simp only[if_true];refine .inl ?_;have p:bp P o.op=some M:=p.resolve_left (fun e=>by rw[e]at T;cases T);obtain⟨κ',v',w',b,J,A,X⟩:=ur p T r.dk r.env;have:=uG O N fuel _ _ _ _ κ' _ w' (r.next hd J A X) c;unfold jy;rcases b with b|⟨b,rfl⟩
   ·rw[b];exact this
   ·rw[b];exact this
  |call E u hf hc=>
   have hw:=fQ (o:=o) hg E r.env r.size;rw[hw];simp only[if_true];refine .inl ?_
   try simp only at u
   have p:bp P o.op=some M:=p.resolve_left (fun e=>by rw[e]at u;cases u);subst u;obtain⟨vs,b,Y⟩:=uE (w:=w) p hf r.env hc.enters;unfold jy;rw[b];refine(hc.run κ w vs r.dk Y).mono ?_;rintro e w' ⟨v',d,σ',κ',rfl,⟨hd1,hs1⟩,J,A,X⟩;subst hs1;subst hd1;exact uG O N fuel _ _ _ _ κ' _ w' (r.next hd J A X) c
  |vec E u hx' hy' L=>
   have hw:=fQ (o:=o) hg E r.env r.size;rw[hw];simp only[if_true];refine .inl ?_
   try simp only at u
   have Q:bp P o.op=some M:=p.resolve_left (fun e=>by rw[e]at u;cases u);subst u;obtain⟨t,x1,y1,inf,z,q1,q2,q3,q4,q5,q6,q7,q8,q9⟩:=xW Q;subst q6 q7;obtain⟨κ',v',w',b,J,A,X⟩:=xM (w:=w) q1 q2 q3 q4 q5 q8 q9 hx' hy' L.1 L.2.1 L.2.2.1 L.2.2.2.1 L.2.2.2.2 r.dk r.env;have c:=uG O N fuel _ _ _ _ κ' _ w' (r.next hd J A X) c;unfold jy;rcases b with b|⟨b,rfl⟩
   ·rw[b];exact c
   ·rw[b];exact c
def uH{q:Bool}{ops:Array Oper}{an:Array Nat}{aops:List ai}{F:Env->(H->Prop)->Prop}{Qc:Exit->Act->World->Prop}(Q:jH P n ops ops.toList=some aops)
  (O:∀ρ S σ κ a w,F ρ S->S σ->Rel w0 κ0 n κ ⟨ρ,σ⟩ a w->Qc .normal a w):∀(fuel:Nat) (j:Array Bool) (ρ:Env) (S:H->Prop) (σ:H) (past:List (H->Prop)) (κ:K) (a:Act) (w:World),S σ->Rel w0 κ0 n κ ⟨ρ,σ⟩ a w->anyS q P w0 ops an aops.toArray F fuel j ρ S past->
  wpAny P .any ops Qc fuel j a w
 |0,j,ρ,S,σ,past,κ,a,w,hσ,r,h=>⟨h.1,O ρ S σ κ a w h.2 hσ r⟩
 |fuel+1,j,ρ,S,σ,past,κ,a,w,hσ,r,h=>by
  refine⟨fun h0=>O ρ S σ κ a w (h.1 h0) hσ r,fun i hi=>?_⟩;obtain⟨x,hx,D⟩:=h.2 i hi;have D:∃v R G,dt P w0 S R x ρ v/\anyS q P w0 ops an aops.toArray F fuel (j.setIfInBounds i true) (ρ.put x.dst v) R G:=by
   rcases D with⟨_,v,R,T,hn⟩|⟨_,v,T,_,hn⟩
   ·exact⟨v,R,_,T,hn⟩
   ·exact⟨v,S,_,T,hn⟩
  obtain⟨v,R,G,T,c⟩:=D;obtain⟨o,ho,U⟩:=(pe Q i).1 x (by simpa using hx);have ho':ops[i]?=some o:=by simpa using ho
  obtain⟨N,g,p,hg,hd,rfl⟩:=uF U;unfold wpOp;simp only[ho'];cases T with
  |skip E hS=>
   have hw:=fQ (o:=o) hg E r.env r.size;rw[hw];simp only[iW,if_false];exact uH Q O fuel _ _ _ _ _ κ _ w (hS σ hσ) (r.put hd .void) c
  |step E X=>
   have hw:=fQ (o:=o) hg E r.env r.size;rw[hw];simp only[if_true];refine .inl ?_;obtain⟨σ',X,J⟩:=X σ hσ;have p:bp P o.op=some N:=p.resolve_left (fun e=>by rw[e]at X;cases X);obtain⟨κ',v',w',b,L,A,Y⟩:=ur p X r.dk r.env;have:=uH Q O fuel _ _ _ _ _ κ' _ w' J (r.next hd L A Y) c;unfold jy;rcases b with b|⟨b,rfl⟩
   ·rw[b];exact this
   ·rw[b];exact this
  |call E u hf hc=>
   have hw:=fQ (o:=o) hg E r.env r.size;rw[hw];simp only[if_true];refine .inl ?_
   try simp only at u
   have p:bp P o.op=some N:=p.resolve_left (fun e=>by rw[e]at u;cases u);subst u;have hc:=hc σ hσ;obtain⟨vs,b,Z⟩:=uE (w:=w) p hf r.env hc.enters;unfold jy;rw[b];refine(hc.run κ w vs r.dk Z).mono ?_;rintro e w' ⟨v',d,σ',κ',rfl,⟨hd1,hs1⟩,L,A,Y⟩;subst hd1;exact uH Q O fuel _ _ _ _ _ κ' _ w' hs1 (r.next hd L A Y) c
  |vec E u hx' hy' M hs'=>
   have hw:=fQ (o:=o) hg E r.env r.size;rw[hw];simp only[if_true];refine .inl ?_
   try simp only at u
   have hi:bp P o.op=some N:=p.resolve_left (fun e=>by rw[e]at u;cases u);subst u;obtain⟨t,x1,y1,inf,z,q1,q2,q3,q4,q5,q6,q7,q8,q9⟩:=xW hi;subst q6 q7;obtain⟨hN,J⟩:=hs' σ hσ;subst hN;obtain⟨κ',v',w',b,L,A,Y⟩:=xM (w:=w) q1 q2 q3 q4 q5 q8 q9 hx' hy' M.1 M.2.1 M.2.2.1 M.2.2.2.1 M.2.2.2.2 r.dk r.env;have c:=uH Q O fuel _ _ _ _ _ κ' _ w' J (r.next hd L A Y) c;unfold jy;rcases b with b|⟨b,rfl⟩
   ·rw[b];exact c
   ·rw[b];exact c
abbrev lI(b:Array Bool):Nat->Bool:=fun j=>b.getD j false
def uI{ops:Array Oper}{aops:List ai}{S:(Nat->Bool)->H->Prop}{F:Array Bool->Env->Prop}{Qc:Exit->Act->World->Prop}(X:jH P n ops ops.toList=some aops)
  (Y:∀i o,ops[i]?=some o->∀j∈qm aops i,∃e∈o.after,gd .any e=true/\e.on=j)
  (Z:∀b ρ σ κ a w,F b ρ->S (lI b) σ->Rel w0 κ0 n κ ⟨ρ,σ⟩ a w->Qc .normal a w):∀(fuel:Nat) (b:Array Bool) (ρ:Env) (σ:H) (κ:K) (a:Act) (w:World),b.size=ops.size->kl ops b->S (lI b) σ->Rel w0 κ0 n κ ⟨ρ,σ⟩ a w->uD P w0 aops S ops aops.toArray F fuel b ρ->
  wpAny P .any ops Qc fuel b a w
 |0,b,ρ,σ,κ,a,w,_,_,hσ,u,h=>⟨h.1,Z b ρ σ κ a w h.2 hσ u⟩
 |fuel+1,b,ρ,σ,κ,a,w,hls,hcl,hσ,u,h=>by
  refine⟨fun h0=>Z b ρ σ κ a w (h.1 h0) hσ u,fun i hi=>?_⟩;obtain⟨x,v,hx,hyG,p⟩:=h.2 i hi;obtain⟨o,ho,htro⟩:=(pe X i).1 x (by simpa using hx);have O:ops[i]?=some o:=by simpa using ho
  obtain⟨hiun,oi,Q,hall⟩:=lx.1 hi;have his:=(eu.1 O).1;rw[O]at Q;injection Q with Q;subst Q;have hlen:aops.length=ops.size:=by have:=(pe X 0).2;simpa using this
  have hc1:BQ aops (lI b):=fun k hk hL j hj=>by
   obtain⟨e,he,hb,R⟩:=Y k _ (Ba (by omega)) j hj;exact R▸hcl k _ (Ba (by omega)) hL e he hb
  have hc2:lI b i=false:=by
   cases hq:lI b i with
   |false=>rfl
   |true=>exact absurd hq (qn hiun)
  have hc3:∀j∈qm aops i,lI b j=true:=fun j hj=>by
   obtain⟨e,he,hb,R⟩:=Y i o O j hj;exact R▸hall e he hb
  have hy:=hyG (lI b) hc1 hc2 hc3;have hLm:fi (lI b) i=lI (b.setIfInBounds i true):=by
   funext j;unfold fi lI;by_cases T:i=j
   ·subst T;have:i<b.size:=by omega
    simp[iV,this]
   ·rw[mj false T];have:(j==i)=false:=by simpa using fun e=>T e.symm
    rw[this,tX]
  rw[hLm]at hy;have G:(b.setIfInBounds i true).size=ops.size:=by simpa using hls
  have J:=hcl.set hi;obtain⟨U,g,r,hg,hd,rfl⟩:=uF htro;unfold wpOp;simp only[O];cases hy with
  |skip E hS=>
   have hw:=fQ (o:=o) hg E u.env u.size;rw[hw];simp only[iW,if_false];exact uI X Y Z fuel _ _ _ κ _ w G J (hS σ hσ) (u.put hd .void) p
  |step E hs=>
   have hw:=fQ (o:=o) hg E u.env u.size;rw[hw];simp only[if_true];refine .inl ?_;obtain⟨σ',hs,L⟩:=hs σ hσ;have r:bp P o.op=some U:=r.resolve_left (fun e=>by rw[e]at hs;cases hs);obtain⟨κ',v',w',c,M,D,hv⟩:=ur r hs u.dk u.env;have:=uI X Y Z fuel _ _ _ κ' _ w' G J L (u.next hd M D hv) p;unfold jy;rcases c with c|⟨c,rfl⟩
   ·rw[c];exact this
   ·rw[c];exact this
  |call E A hf hc=>
   have hw:=fQ (o:=o) hg E u.env u.size;rw[hw];simp only[if_true];refine .inl ?_
   try simp only at A
   have r:bp P o.op=some U:=r.resolve_left (fun e=>by rw[e]at A;cases A);subst A;have hc:=hc σ hσ;obtain⟨vs,c,hfit⟩:=uE (w:=w) r hf u.env hc.enters;unfold jy;rw[c];refine(hc.run κ w vs u.dk hfit).mono ?_;rintro e w' ⟨v',d,σ',κ',rfl,⟨hd1,hs1⟩,M,D,hv⟩;subst hd1;exact uI X Y Z fuel _ _ _ κ' _ w' G J hs1 (u.next hd M D hv) p
  |vec E A hx' hy' N hs'=>
   have hw:=fQ (o:=o) hg E u.env u.size;rw[hw];simp only[if_true];refine .inl ?_
   try simp only at A
   have hi:bp P o.op=some U:=r.resolve_left (fun e=>by rw[e]at A;cases A);subst A;obtain⟨t,x1,y1,inf,z,q1,q2,q3,q4,q5,q6,q7,q8,q9⟩:=xW hi;subst q6 q7;obtain⟨hN,L⟩:=hs' σ hσ;subst hN;obtain⟨κ',v',w',c,M,D,hv⟩:=xM (w:=w) q1 q2 q3 q4 q5 q8 q9 hx' hy' N.1 N.2.1 N.2.2.1 N.2.2.2.1 N.2.2.2.2 u.dk u.env;have p:=uI X Y Z fuel _ _ _ κ' _ w' G J L (u.next hd M D hv) p;unfold jy;rcases c with c|⟨c,rfl⟩
   ·rw[c];exact p
   ·rw[c];exact p
def Sb{ops:Array Oper}{l:List ai}{D:Exit->Act->World->Prop}{S:(Nat->Bool)->H->Prop}(hl:jH P n ops ops.toList=some l)(p:lG ops l.toArray ops.size 0 (ft ops.size false)=true)
  (h0:S (fun _=>false) σ) (hc:nM P w0 l S 0 l ρ ρ') (J:∀L,(∀j,j<l.length->L j=true)->∀σ κ a w,S L σ->Rel w0 κ0 n κ ⟨ρ',σ⟩ a w->D .normal a w) (t:Rel w0 κ0 n κ ⟨ρ,σ⟩ a w):
  wpAny P .any ops D ops.size (ft ops.size false) a w:=by
 have b:l.length=ops.size:=by have:=(pe hl 0).2;simpa using this
 have c:∀j,(ft ops.size false).getD j false=false:=fun j=>by
  simp[iV,QA];split<;>rfl
 have M:∀i o,ops[i]?=some o->∀j∈qm l i,∃e∈o.after,gd .any e=true/\e.on=j:=fun i o E j hj=>by
  unfold qm at hj;rw[List.mem_filter,nE]at hj;have:=HJ (aops:=l.toArray) (by simpa using b) ops.size 0 _ p (fun i _ N=>by simp[iV,N]) (by omega) j i (be _) hj.1 o E;rcases this with h|h
  ·have u:l.toArray.getD j default=l.getD j default:=by simp[iV,cx]
   have A:l.toArray.getD i default=l.getD i default:=by simp[iV,cx]
   rw[u,A]at h;rw[h]at hj;simp at hj
  ·exact h
 have hG:=HI (P:=P) (w0:=w0) (l0:=l) (S:=S) (ops:=ops) (aops:=l.toArray) (F:=fun g ρ=>ρ=ρ'/\∀j,j<l.length->g.getD j false=true) l 0 (ft ops.size false) ρ ρ' (by simp) (by simp[b]) (fun j hj=>absurd hj (Nat.not_lt_zero _)) (by simp) (by rw[b];exact p) hc (fun r h=>⟨rfl,fun j hj=>h j (by simpa using hj)⟩);rw[b]at hG;refine uI hl M (fun g ρ σ κ a w e hσ t=>?_) ops.size _ ρ σ κ a _ (by simp) (fun k o E G=>by rw[c]at G;cases G) (by rw[show lI (ft ops.size false)=(fun _=>false)from funext c];exact h0) t hG
 obtain⟨u,A⟩:=e;subst u;exact J _ (by simpa[b]using A) σ κ a w hσ t
def W.xY{k:List It}(h:W P w0 n0 Q (.code .bad::k) s):False:=by
 generalize b:It.code .bad::k=e at h;induction h with
 |ek hl _ c=>exact c b
 |_=>cases b
def HL(q:Bool)(aops:Array ai)(m:Nat):iI q aops (ft m false)=0:=by
 unfold iI;rw[List.length_eq_zero_iff,List.filter_eq_nil_iff];intro x _;have:(ft m false).getD x false=false:=by
  rw[iV,QA];split<;>rfl
 rw[this];simp
def mE(hn:κ0.n=n0)(U:P.follows .mixedOrders=true):∀(c:Code) (x:AC),tr P n c=some x->∀{k:List It} {s:St} {κ:K} {a:Act} {w:World},W P w0 n0 Q (.code x::k) s->Rel w0 κ0 n κ s a w->c.wp P (xV P w0 n0 Q κ0 n k) a w
 | .skip,x,h,k,s,κ,a,w,E,A=>by
   simp only[tr]at h;injection h with h;subst h;obtain⟨t,hl,j⟩:=E.Hv;obtain⟨κ',g⟩:=hl w0 κ0 n κ a w hn A;exact wp_skip ⟨t,κ',g,j⟩
 | .region id ops draw,x,h,k,s,κ,a,w,E,A=>by
   simp only[tr]at h;split at h
   ·rename_i l hl;cases draw
    ·simp only[iW,if_false]at h;injection h with h;subst h;obtain⟨t,Y,j⟩:=E.RR;obtain⟨κ',g⟩:=Y w0 κ0 n κ a w hn A;exact wp_region_list (sj hn ops.toList l hl j g)
    ·simp only[if_true]at h;split at h
     ·rename_i X;injection h with h;subst h;obtain⟨t,Y,hinv⟩:=E.RT;obtain⟨κ',g⟩:=Y w0 κ0 n κ a w hn A;refine wp_region_any U ?_;have u:Rel w0 κ0 n κ' ⟨t.ρ,t.σ⟩ a {w with drawn:=w.drawn+1}:=⟨g.dk.drawn _,g.env,g.size,g.defers,g.le⟩;have N:l.length=ops.size:=by have:=(pe hl 0).2;simpa using this
      cases hinv with
      |gen h0 hc j=>
       exact Sb hl X h0 hc (fun L hL σ κ a w hσ A=>⟨⟨_,σ⟩,κ,A,j L hL σ hσ⟩) u
      |Hw r hS0 hc j=>
       rename_i ρ' S0 S hs;have M:∀q:Bool,pc q ops l.toArray≠[]->nL P w0 (pc q ops l.toArray) t.ρ S0 [] ρ' S hs->wpAny P .any ops (xV P w0 n0 Q κ0 n k) ops.size (ft ops.size false) a {w with drawn:=w.drawn+1}:=fun q r hc=>by
        unfold pc at r hc;simp only at r hc;split at r
        ·rename_i i;rw[if_pos i]at hc;simp only[bM]at i;have Z:kl ops (ft ops.size false):=fun k o ho hk=>by
          have:=(eu.1 ho).1;simp[this]at hk
         have hol:(uu q (qk ops) l.toArray).length=ops.size:=by simpa using i.2
         have:=B0 (q:=q) (P:=P) (w0:=w0) (ops:=ops) (an:=qk ops) (aops:=l.toArray) (F:=fun ρ σ=>ρ=ρ'/\σ=S) i.1.1 (by simpa using N) (uu q (qk ops) l.toArray) (ft ops.size false) t.ρ ρ' S0 S [] hs (by simp) i.1.2 Z (HL _ _ _).symm hc ⟨rfl,rfl⟩;rw[hol]at this;exact uH hl (fun ρ S1 σ κ a w e hσ A=>⟨⟨ρ,σ⟩,κ,A,by rw[e.1];exact j σ (by rw[<-e.2];exact hσ)⟩) ops.size _ t.ρ S0 t.σ [] κ' a _ hS0 u this
        ·exact absurd rfl r
       unfold BP at r hc;split at hc
       ·exact M false (by rename_i e;rw[e]at r;exact r) hc
       ·rename_i p hp;exact M true hp hc
      |one hc j=>
      rename_i ρ' σ';rcases hc with⟨hc,rfl⟩|⟨r,hs,hc⟩
      ·have:=HB (P:=P) (w0:=w0) (σ:=t.σ) (ops:=ops) (aops:=l.toArray) (F:=fun ρ=>ρ=ρ') l 0 (ft ops.size false) t.ρ ρ' (by simp) (by rw[N];exact X) hc rfl;rw[N]at this;exact xX hl (fun ρ κ a w e A=>⟨⟨ρ,t.σ⟩,κ,A,by rw[e];exact j⟩) ops.size _ t.ρ κ' a _ u this
      ·have M:∀q:Bool,pc q ops l.toArray≠[]->ab P w0 (pc q ops l.toArray) t.ρ t.σ [] ρ' σ' hs->wpAny P .any ops (xV P w0 n0 Q κ0 n k) ops.size (ft ops.size false) a {w with drawn:=w.drawn+1}:=fun q r hc=>by
        unfold pc at r hc;simp only at r hc;split at r
        ·rename_i i;rw[if_pos i]at hc;simp only[bM]at i;have Z:kl ops (ft ops.size false):=fun k o ho hk=>by
          have:=(eu.1 ho).1;simp[this]at hk
         have hol:(uu q (qk ops) l.toArray).length=ops.size:=by simpa using i.2
         have:=BY (q:=q) (P:=P) (w0:=w0) (ops:=ops) (an:=qk ops) (aops:=l.toArray) (F:=fun ρ σ=>ρ=ρ'/\σ=σ') i.1.1 (by simpa using N) (uu q (qk ops) l.toArray) (ft ops.size false) t.ρ ρ' t.σ σ' [] hs (by simp) i.1.2 Z (HL _ _ _).symm hc ⟨rfl,rfl⟩;rw[hol]at this;exact uG hl (fun ρ σ κ a w e A=>⟨⟨ρ,σ⟩,κ,A,by rw[e.1,e.2];exact j⟩) ops.size _ t.ρ t.σ [] κ' a _ u this
        ·exact absurd rfl r
       unfold BP at r hc;split at hc
       ·exact M false (by rename_i e;rw[e]at r;exact r) hc
       ·rename_i p hp;exact M true hp hc
     ·injection h with h;subst h;exact(W.xY E).elim
   ·cases h
 | .seq c d,x,h,k,s,κ,a,w,E,A=>by
   simp only[tr]at h;split at h
   ·rename_i x1 x2 h1 h2;injection h with h;subst h;obtain⟨t,hl,j⟩:=E.RU;obtain⟨κ',g⟩:=hl w0 κ0 n κ a w hn A;refine wp_seq (wp_mono (mE hn U c x1 h1 j g) ?_);rintro e a w ⟨s',J,u,D⟩;cases e with
    |normal=>exact mE hn U d x2 h2 D u
    |exit id=>exact⟨s',J,u,D⟩
    |ret=>exact⟨s',J,u,D⟩
    |goto l=>exact D.elim
    |panic c=>exact D.elim
    |outgrown=>exact D.elim
   ·cases h
 | .cond c y z,x,h,k,s,κ,a,w,E,A=>by
   simp only[tr]at h;split at h
   ·rename_i c' x1 x2 hc h1 h2;injection h with h;subst h;obtain⟨t,b,hl,hb,hy,hz⟩:=E.RW;obtain⟨κ',g⟩:=hl w0 κ0 n κ a w hn A;have hr:=bN g.env hc;rw[hb]at hr;refine wp_cond hr.sf ?_;cases b
    ·exact mE hn U z x2 h2 (hz rfl) g
    ·exact mE hn U y x1 h1 (hy rfl) g
   ·cases h
 | .block id c,x,h,k,s,κ,a,w,E,A=>by
   simp only[tr]at h;split at h
   ·rename_i x1 h1;injection h with h;subst h;obtain⟨t,hl,j⟩:=E.RX;obtain⟨κ',g⟩:=hl w0 κ0 n κ a w hn A;refine wp_block (wp_mono (mE hn U c x1 h1 j g) ?_);rintro e a w ⟨s',J,u,D⟩;cases e with
    |normal=>
     obtain⟨t2,hl2,G⟩:=W.RY D;obtain⟨O,R⟩:=hl2 w0 κ0 n J a w hn u;exact⟨t2,O,R,G⟩
    |exit id'=>
     obtain⟨k',hp,G⟩:=D;simp only[jh]at hp;simp only[Exit.inBlock];by_cases he:id'=id
     ·subst he;rw[if_pos rfl]at hp⊢;injection hp with hp;subst hp;exact⟨s',J,u,G⟩
     ·rw[if_neg he];rw[if_neg (fun e=>he e.symm)]at hp;exact⟨s',J,u,k',hp,G⟩
    |ret=>exact⟨s',J,u,D⟩
    |goto l=>exact D.elim
    |panic c=>exact D.elim
    |outgrown=>exact D.elim
   ·cases h
 | .loop c,x,h,k,s,κ,a,w,E,A=>by
   simp only[tr]at h;split at h
   ·rename_i x1 h1;injection h with h;subst h;obtain⟨t,α,S,μ,x0,hl,hl0,T⟩:=E.R1;obtain⟨κ',g⟩:=(hl0.trans hl) w0 κ0 n κ a w hn A;refine wp_loop_ghost (fun m a w=>∃y κ,μ y=m/\Rel w0 κ0 n κ (S y) a w) (μ x0) ⟨x0,κ',rfl,g⟩ ?_;rintro m a w ⟨y,J,rfl,u⟩;refine wp_mono (mE hn U c x1 h1 (T y) u) ?_;rintro e a w ⟨s',O,R,G⟩;cases e with
    |normal=>
     obtain⟨t3,hl3,z,hlt,hz⟩:=W.inv_inv G;obtain⟨κ4,hR4⟩:=(hz.trans hl3) w0 κ0 n O a w hn R;exact⟨μ z,hlt,z,κ4,rfl,hR4⟩
    |exit id=>exact⟨s',O,R,G⟩
    |ret=>exact⟨s',O,R,G⟩
    |goto l=>exact G.elim
    |panic c=>exact G.elim
    |outgrown=>exact G.elim
   ·cases h
 | .exit id,x,h,k,s,κ,a,w,E,A=>by
   simp only[tr]at h;injection h with h;subst h;obtain⟨t,k',hl,hp,j⟩:=E.RZ;obtain⟨κ',g⟩:=hl w0 κ0 n κ a w hn A;exact wp_exit ⟨t,κ',g,k',hp,j⟩
 | .ret,x,h,k,s,κ,a,w,E,A=>by
   simp only[tr]at h;injection h with h;subst h;obtain⟨t,hl,j⟩:=E.R0;obtain⟨κ',g⟩:=hl w0 κ0 n κ a w hn A;exact wp_ret ⟨t,κ',g,j⟩
 | .rangeFunc ..,x,h,k,s,κ,a,w,E,A=>by simp only[tr]at h;injection h with h;subst h;exact(W.xY E).elim
 | .scope c,x,h,k,s,κ,a,w,E,A=>by
   simp only[tr]at h;refine wp_scope_straight (wp_mono (mE hn U c x h E A) ?_);intro e a w hP;cases e with
   |normal=>exact hP
   |exit id=>exact hP
   |ret=>exact hP
   |goto l=>obtain⟨s',J,u,D⟩:=hP;exact D.elim
   |panic c=>exact hP
   |outgrown=>exact hP
 | .label _,x,h,k,s,κ,a,w,E,A=>by
   simp only[tr]at h;injection h with h;subst h;obtain⟨t,hl,j⟩:=E.Hv;obtain⟨κ',g⟩:=hl w0 κ0 n κ a w hn A;exact wp_label ⟨t,κ',g,j⟩
 | .goto _,x,h,k,s,κ,a,w,E,A=>by simp only[tr]at h;injection h with h;subst h;exact(W.xY E).elim
 | .refuse _,x,h,k,s,κ,a,w,E,A=>by simp only[tr]at h;injection h with h;subst h;exact(W.xY E).elim
end
inductive ak where
 |tmp (t:Nat)
 |HM (t:Nat)
 |aW (n t:Nat)
 deriving Inhabited
def ko(P:Program):List ResultVar->Option (List ak)
 |[]=>some []
 | .tmp t::l=>match ko P l with
   |some r=>some (.tmp t::r)
   |none=>none
 | .cell a t::l=>match P.underlying t,P.info? t,ko P l with
   |some d,some i,some r=>some ((if kb d then .aW i.size a else .HM a)::r)
   |_,_,_=>none
def aX(s:St):List ak->Option (List V)
 |[]=>some []
 | .tmp t::l=>match aX s l with
   |some r=>some (s.ρ t::r)
   |none=>none
 | .HM t::l=>match je s.σ (s.ρ t),aX s l with
   |some (cs,o),some r=>match cs[o]? with
    |some u=>some (u::r)
    |none=>none
   |_,_=>none
 | .aW n t::l=>match je s.σ (s.ρ t),aX s l with
   |some (cs,o),some r=>if o+n<=cs.length then some (.agg ((cs.drop o).take n)::r)else none
   |_,_=>none
def aT:List V->V
 |[v]=>v
 |vs=>.au vs
inductive ad.wk:ad->ad->Prop where
 |rfl (b:ad):ad.wk b b
 |cells {cs ds:List V} {tg:Option TypeId} (h:ds.length=cs.length) (h1:∀j (hj:j<cs.length) (hj':j<ds.length),V.wk cs[j] ds[j]) (h2:leaves ds=true):ad.wk (.cells cs tg) (.cells ds tg)
 |gone (b:ad):ad.wk b .gone
def H.wk(σ σ':H):Prop:=σ'.length=σ.length/\∀b (e:b<σ.length) (c:b<σ'.length),ad.wk σ[b] σ'[b]
def H.xZ(σ:H):H.wk σ σ:=⟨rfl,fun _ _ _=>.rfl _⟩
section
variable {P:Program} {w0 w w':World} {κ κ0:K} {σ σ':H} {a:Act} {ρ ρ':Env} {n n0:Nat} {Q:St->Prop} {s:St}
def aB.uJ(h:aB w0 κ σ w)(hw:H.wk σ σ'):aB w0 κ σ' w:=by
 refine⟨by rw[hw.1];exact h.n,h.ext,h.mem,fun b F=>?_,fun x y G J g D=>?_,fun l o E=>⟨(h.rest l o E).1,(h.rest l o E).2.1,fun z c e=>?_⟩,h.dG⟩
 rotate_right
 ·have p:z<σ.length:=by rw[<-hw.1];exact c
  refine(h.rest l o E).2.2 z p ?_;have h1:=hw.2 z p c;generalize σ[z]=X at h1⊢;generalize σ'[z]=Y at h1 e;cases h1 with
  |rfl=>exact e
  |cells hl hc i=>exact e
  |gone=>cases e
 ·have r:b<σ.length:=by rw[<-hw.1];exact F
  have h1:=hw.2 b r F;have h2:=h.cg b r;generalize σ[b]=X at h1 h2;generalize σ'[b]=Y at h1;cases h1 with
  |rfl=>exact h2
  |cells hl hc i=>
   obtain⟨vs,t,L,M,k3⟩:=h2.row;refine⟨h2.fr,⟨vs,t,L,by rw[hl];exact M,fun j hj=>⟨?_,(k3 j (by omega)).2.wk (hc j (by omega) hj)⟩⟩,h2.own,h2.free,h2.ty⟩;unfold leaves at i;rw[cW]at i;exact i _ (List.getElem_mem hj)
  |gone=>trivial
 ·have u:x<σ.length:=by rw[<-hw.1];exact G
  have A:y<σ.length:=by rw[<-hw.1];exact J
  have key:∀z (p:z<σ.length) (c:z<σ'.length) g,(σ'[z]).bo κ z=some g->(σ[z]).bo κ z=some g:=fun z p c g hg=>by
   have h1:=hw.2 z p c;generalize σ[z]=X at h1⊢;generalize σ'[z]=Y at h1 hg;cases h1 with
   |rfl=>exact hg
   |cells hl hc i=>exact hg
   |gone=>cases hg
  intro N O;exact h.apart x y u A g D (key x u G g N) (key y A J g O)
def Fits.cons{x:V}{l:List V}{v:Value}{xs:List Value}(h:RV κ x v)(k:Fits κ l xs):Fits κ (x::l) (v::xs):=
 ⟨by simp[k.1],fun j hj=>by
   cases j with
   |zero=>exact h
   |succ j=>simpa using k.2 j (by simpa using hj)⟩
def Fits.nil:Fits κ [] []:=⟨rfl,fun j hj=>by simp at hj⟩
def Fits.cons_inv{x:V}{l:List V}{xs:List Value}(h:Fits κ (x::l) xs):∃v ys,xs=v::ys/\RV κ x v/\Fits κ l ys:=by
 cases xs with
 |nil=>have:=h.1;simp at this
 |cons v ys=>exact⟨v,ys,rfl,h.2 0 (by simp),by have:=h.1;simpa using this,fun j hj=>h.2 (j+1) (Nat.succ_lt_succ hj)⟩
def Fits.jZ{xs:List Value}(h:Fits κ [] xs):xs=[]:=List.eq_nil_of_length_eq_zero h.1
def uK(tmps:Array Value):ResultVar->Sem Value
 | .tmp t=>pure (tmps.getD t undef)
 | .cell a t=>do loadVar t (<-asAddr (tmps.getD a undef))
def HQ{x:V}{v:Value}{cs:List V}{o:Nat}(c:aB w0 κ σ w)(h:je σ x=some (cs,o))(e:RV κ x v):∃p,v= .pointer (some p):=by
 obtain⟨b,p,rfl,_⟩:=By c h e;exact⟨_,rfl⟩
def x7(c:Rel w0 κ0 n κ s a w):∀{l:List ResultVar} {r:List ak} {vs:List V},ko P l=some r->aX s r=some vs->∃xs:List Value,(l.mapM (uK a.tmps)).run P w= .ok xs w/\Fits κ vs xs
 |[],r,vs,h,b=>by
  simp only[ko]at h;injection h with h;subst h;simp only[aX]at b;injection b with b;subst b;exact⟨[],by simp,Fits.nil⟩
 | .tmp t::l,r,vs,h,b=>by
   simp only[ko]at h;split at h
   ·rename_i F A;injection h with h;subst h;simp only[aX]at b;split at b
    ·rename_i g e;injection b with b;subst b;obtain⟨xs,h1,h2⟩:=x7 c A e;exact⟨a.tmps.getD t undef::xs,by simp[A4,uK,h1],Fits.cons (c.env t) h2⟩
    ·cases b
   ·cases h
 | .cell q t::l,r,vs,h,b=>by
   simp only[ko]at h;split at h
   ·rename_i d i F hd G A;injection h with h;subst h;cases hg:kb d
    ·simp only[hg,iW,if_false,aX]at b;split at b
     ·rename_i cs o g hc e;split at b
      ·rename_i u J;injection b with b;subst b;obtain⟨xs,h1,h2⟩:=x7 c A e;obtain⟨v',j,D⟩:=GU (P:=P) c.dk hd hg hc (c.env q) J;obtain⟨p,hp⟩:=HQ c.dk hc (c.env q);rw[hp]at j;have k3:(loadVar t p).run P w= .ok v' w:=by simpa[xf,tT]using j
       exact⟨v'::xs,by simp only[A4,uK,hp,asAddr,jU,kK,kL,k3,h1],Fits.cons D h2⟩
      ·cases b
     ·cases b
    ·simp only[hg,if_true,aX]at b;split at b
     ·rename_i cs o g hc e;split at b
      ·rename_i E;injection b with b;subst b;obtain⟨xs,h1,h2⟩:=x7 c A e;obtain⟨v',j,D⟩:=GV (P:=P) c.dk hd hg G hc (c.env q) E;obtain⟨p,hp⟩:=HQ c.dk hc (c.env q);rw[hp]at j;have k3:(loadVar t p).run P w= .ok v' w:=by simpa[xf,tT]using j
       exact⟨v'::xs,by simp only[A4,uK,hp,asAddr,jU,kK,kL,k3,h1],Fits.cons D h2⟩
      ·cases b
     ·cases b
   ·cases h
def B3{fn:Func}{r:List ak}{vs:List V}(b:Rel w0 κ0 n κ s a w)(c:ko P fn.results.toList=some r)(g:aX s r=some vs):∃v,(results fn a.tmps).run P w= .ok v w/\RV κ (aT vs) v:=by
 obtain⟨xs,h1,h2⟩:=x7 b c g;have e:results fn a.tmps=(do let vs<-fn.results.mapM (uK a.tmps);pure (if h:vs.size=1 then vs[0]else .tuple vs)):=by
  unfold results;rfl
 rw[e,Array.mapM_eq_mapM_toList];refine⟨if h:xs.length=1 then xs[0]else .tuple xs.toArray,?_,?_⟩
 ·simp[h1]
 ·by_cases hl:xs.length=1
  ·rw[dif_pos hl];obtain⟨x,rfl⟩:∃x,vs=[x]:=by
    have:=h2.1
    match vs,this with
    |[x],_=>exact⟨x,rfl⟩
    |[],h=>simp at h;rw[h]at hl;simp at hl
    |x::y::l,h=>simp at h;omega
   have:=h2.2 0 (by simp);rw[iF (by omega)]at this;exact this
  ·rw[dif_neg hl];have:aT vs= .au vs:=by
    match vs,h2.1 with
    |[x],h=>simp at h;exact absurd h hl
    |[],_=>rfl
    |x::y::l,_=>rfl
   rw[this];exact .au h2.1 h2.2
def Fin(r:List ak)(n0:Nat)(R:V->H->Prop)(s:St):Prop:=
 ∃vs d σ',aX s r=some vs/\V.wk (aT vs) d/\V.low n0 d/\n0<=s.σ.length/\H.ok (s.σ.take n0)/\H.wk (s.σ.take n0) σ'/\R d σ'
def ji(args:List V):Env:=fun k=>args.getD k .void
def B4{args:List V}{vs:List Value}(h:Fits κ args vs)(m:Nat):cj κ (ji args) {tmps:=vs.toArray++Array.replicate m undef,defers:=[]}:=by
 intro k;unfold ji;by_cases b:k<args.length
 ·have g:k<vs.length:=by rw[h.1];exact b
  have:=h.2 k b;rw[iF g]at this;have c:args.getD k .void=args[k]:=by simp[mb,b]
  have e:(vs.toArray++ft m undef).getD k undef=vs[k]:=by simp[nB,g,show k<vs.length+m from by omega]
  rw[c,e];exact this
 ·have c:args.getD k .void= .void:=by simp[mb,Nat.le_of_not_lt b]
  have e:(vs.toArray++ft m undef).getD k undef=undef:=by
   rw[iV,Array.getElem?_append_right (by simp[h.1];omega)];rw[QA];split<;>rfl
  rw[c,e];exact .void
inductive C.Sz:C->Prop where
 |bool (b:Bool):C.Sz (.bool b)
 |int (k:IntKind) (n:Int):C.Sz (.int k n)
 |str (l:List UInt8) (h:l.length<=maxLen):C.Sz (.str l)
 |sl (rows:List (List C)) (h:rows.length<=maxLen) (h1:∀r∈rows,∀x∈r,C.Sz x):C.Sz (.sl rows)
 |eL:C.Sz .eL
 |ref (cs:List C) (o:Nat) (h:∀x∈cs,C.Sz x):C.Sz (.ref cs o)
 |jD:C.Sz .jD
 |err:C.Sz .err
def RC.sz{m:Mem}{x:C}{v:Value}(h:RC m x v):C.Sz x:=by
 induction h with
 |bool b=>exact .bool b
 |int k n=>exact .int k n
 |str l h=>exact .str l h
 |sl rows s A cap xs h0 h1 h2 g t u c=>
  refine .sl rows (by omega) fun r w x e=>?_;obtain⟨i,D,rfl⟩:=eH w;obtain⟨j,hj,rfl⟩:=eH e;exact c i D j hj
 |eL=>exact .eL
 |ref cs o b p xs g t u c=>
  refine .ref cs o fun x e=>?_;obtain⟨j,hj,rfl⟩:=eH e;exact c j hj
 |jD=>exact .jD
 |err=>exact .err
inductive V.Sz:V->Prop where
 |c (x:C) (h:C.Sz x):V.Sz (.c x)
 |agg (vs:List V) (h:∀x∈vs,V.Sz x):V.Sz (.agg vs)
 |aC (b:Nat) (rows:List (List C)) (h:C.Sz (.sl rows)):V.Sz (.aC b rows)
 |ae (rows:List (List C)) (h:C.Sz (.sl rows)):V.Sz (.ae rows)
 |fn (f:FuncId) (l:List V):V.Sz (.fn f l)
 |ptr (b o:Nat):V.Sz (.ptr b o)
 |void:V.Sz .void
 |any:V.Sz .any
 |cu:V.Sz .cu
 |mp (b:Nat):V.Sz (.mp b)
 |cN:V.Sz .cN
 |vec (b k:Nat):V.Sz (.vec b k)
 |au (vs:List V):V.Sz (.au vs)
def RV.sz{x:V}{v:Value}(h:RV κ x v):V.Sz x:=by
 induction h with
 |void=>exact .void
 |any v=>exact .any
 |c h=>exact .c _ h.sz
 |ptr=>exact .ptr _ _
 |aC h=>exact .aC _ _ h.sz
 |ae h=>exact .ae _ h.sz
 |fn=>exact .fn _ _
 |cu=>exact .cu
 |mp=>exact .mp _
 |cN=>exact .cN
 |vec=>exact .vec _ _
 |agg h h1 b=>exact .agg _ fun x e=>by obtain⟨j,hj,rfl⟩:=eH e;exact b j hj
 |au=>exact .au _
def Fits.sz{l:List V}{xs:List Value}(h:Fits κ l xs):∀x∈l,V.Sz x:=fun x b=>by obtain⟨j,hj,rfl⟩:=eH b;exact(h.2 j hj).sz
def DC.Sc{f:FuncId}{fn:Func}{c:Code}{x:AC}{r:List ak}{args:List V}{R:V->H->Prop}(G:P.follows .mixedOrders=true)(hf:P.funcs[f]?=some fn)(J:fn.body=some c)(L:tr P fn.ntmps c=some x)(M:ko P fn.results.toList=some r)
  (A:args.length<=fn.ntmps) (D:Enters P f) (N:H.ok σ->(∀x∈args,V.Sz x)->W P w0 σ.length (Fin r σ.length R) [.code x] ⟨ji args,σ⟩):DC P w0 f args σ R:=by
 refine⟨D,fun κ w vs b h=>?_⟩;refine calls_of_wp hf J ?_;have O:Rel w0 κ fn.ntmps κ ⟨ji args,σ⟩ {tmps:=vs.toArray++ft (fn.ntmps-vs.toArray.size) undef,defers:=[]} w:=
  ⟨b,B4 h _,by simp[h.1];omega,rfl,K.le_refl κ⟩
 have j:∀s κ' a w,Rel w0 κ fn.ntmps κ' s a w->Fin r σ.length R s->a.defers=[]/\∃v,(results fn a.tmps).run P w= .ok v w/\∃v' d σ' i,Ending.returned v= .returned v'/\R d σ'/\κ.le i/\aB w0 i σ' w/\RV i d v':=by
  rintro s κ' a w g ⟨vs,d,σ',h1,h2,Q,T,U,X,Y⟩;obtain⟨v,Z,k2⟩:=B3 g M h1;have u:=(g.dk.cut σ.length T U).uJ X;exact⟨g.defers,v,Z,v,d,σ',κ'.cut σ.length,rfl,Y,K.Br g.le (by rw[b.n];exact aA _),u,(k2.wk h2).cut Q⟩
 refine wp_mono (mE (n0:=σ.length) b.n G c x L (N b.ok h.sz) O) ?_;rintro e a w' ⟨s,κ',g,p⟩;cases e with
 |normal=>
  obtain⟨t,hl,hq⟩:=W.BS p;obtain⟨E,F⟩:=hl w0 κ fn.ntmps κ' a w' b.n g;exact j t E a w' F hq
 |ret=>exact j s κ' a w' g p
 |exit id=>obtain⟨k',hp,_⟩:=p;cases hp
 |goto l=>exact p.elim
 |panic ch=>exact p.elim
 |outgrown=>exact p.elim
def DC.uL{f:FuncId}{args:List V}{d:V}(g:Enters P f)(h:∀κ w vs,aB w0 κ σ w->Fits κ args vs->∃v,RV κ d v/\Calls P f vs.toArray w (fun e w'=>e= .returned v/\Below w.heap.size w w')):
  DC P w0 f args σ (fun i σ'=>i=d/\σ'=σ):=by
 refine⟨g,fun κ w vs b c=>?_⟩;obtain⟨v,j,hc⟩:=h κ w vs b c;exact hc.mono fun e w' ⟨p,r⟩=>⟨v,d,σ,κ,p,⟨rfl,rfl⟩,K.le_refl κ,b.grow r,j⟩
def K.start(w:World):K:={m:=fun b o=>w.cell? ⟨b,o,none⟩,n:=0,pos:=fun _=>0,fr:=fun _=>none,sv:=fun _=>undef,sz:=fun _=>0}
def aB.start(w:World):aB w (K.start w) [] w:=
 ⟨rfl,Below.refl _ _,fun _ _ _ h=>h,fun b c=>by simp at c,fun a b ha=>by simp at ha,fun l o e=>(by cases e),be _⟩
def DC.calls{f:FuncId}{args:List V}{R:V->H->Prop}(h:DC P w f args [] R){vs:List Value}(hf:Fits (K.start w) args vs):
  Calls P f vs.toArray w (fun e w'=>∃v d σ' κ',e= .returned v/\R d σ'/\RV κ' d v/\Below w.heap.size w w'):=
 (h.run (K.start w) w vs (aB.start w) hf).mono fun _ _ ⟨v,d,σ',κ',h1,h2,_,b,c⟩=>⟨v,d,σ',κ',h1,h2,c,b.ext⟩
end
def eX:Nat->List It->St->List It×St
 |0,k,s=>(k,s)
 |_+1,[],s=>([],s)
 |f+1,it::k,s=>match it with
  | .code c=>match c with
    | .skip=>eX f k s
    | .ax l=>eX f (.ops l::k) s
    | .seq a b=>eX f (.code a:: .code b::k) s
    | .block id c=>eX f (.code c:: .gn id::k) s
    | .exit id=>match jh id k with
      |some e=>eX f e s
      |none=>(.code (.exit id)::k,s)
    |c=>(.code c::k,s)
  | .gn _=>eX f k s
  | .ops []=>eX f k s
  | .ops (o::l)=>match bQ s.ρ o.guard with
    |some true=>match step s.ρ s.σ o.ins with
     |some (v,σ')=>eX f (.ops l::k) ⟨s.ρ.put o.dst v,σ'⟩
     |none=>(.ops (o::l)::k,s)
    |some false=>eX f (.ops l::k) ⟨s.ρ.put o.dst .void,s.σ⟩
    |none=>(.ops (o::l)::k,s)
  |it=>(it::k,s)
section
variable {P:Program} {w0:World} {n0:Nat} {Q:St->Prop}
def W.eX(f:Nat):∀(k:List It) (s:St),W P w0 n0 Q (Lamb.eX f k s).1 (Lamb.eX f k s).2->W P w0 n0 Q k s:=by
 induction f with
 |zero=>intro k s h;exact h
 |succ f e=>
  intro k s h;cases k with
  |nil=>exact h
  |cons g k=>
   cases g with
   |code c=>
    cases c with
    |skip=>exact .skip (e _ _ h)
    |ax l=>exact .ax (e _ _ h)
    |seq a b=>exact .seq (e _ _ h)
    |block id c=>exact .block (e _ _ h)
    |exit id=>
     simp only[Lamb.eX]at h;cases hp:jh id k with
     |none=>rw[hp]at h;exact h
     |some j=>rw[hp]at h;exact .exit hp (e _ _ h)
    |cond=>exact h
    |loop=>exact h
    |ret=>exact h
    |ff=>exact h
    |bad=>exact h
   |gn id=>exact .gn (e _ _ h)
   |inv I=>exact h
   |ops l=>
    cases l with
    |nil=>exact .xQ (e _ _ h)
    |cons o l=>
     simp only[Lamb.eX]at h;split at h
     ·rename_i hg;split at h
      ·rename_i v σ' i;exact .kg hg i (e _ _ h)
      ·exact h
     ·rename_i hg;exact .BR hg (e _ _ h)
     ·exact h
def W.test{c:ah}{x y:AC}{k:List It}{s:St}{t:Bool}(hc:c.ev s.ρ= .c (.bool t))(h1:t=true->W P w0 n0 Q (.code x::k) s)(h2:t=false->W P w0 n0 Q (.code y::k) s):W P w0 n0 Q (.code (.cond c x y)::k) s:=.cond hc h1 h2
def W.yes{c:ah}{x y:AC}{k:List It}{s:St}(hc:c.ev s.ρ= .c (.bool true))(h:W P w0 n0 Q (.code x::k) s):W P w0 n0 Q (.code (.cond c x y)::k) s:=.cond hc (fun _=>h) (fun e=>by cases e)
def W.no{c:ah}{x y:AC}{k:List It}{s:St}(hc:c.ev s.ρ= .c (.bool false))(h:W P w0 n0 Q (.code y::k) s):W P w0 n0 Q (.code (.cond c x y)::k) s:=.cond hc (fun e=>by cases e) (fun _=>h)
def W.call{d:Option Nat}{f:ah}{b:List ah}{g:Option (Nat×Bool)}{l:List ai}{k:List It}{s:St}{c:FuncId}{caps:List V}{R:V->H->Prop}{args:List V}(hc:DC P w0 c args s.σ R)(hg:bQ s.ρ g=some true)(hf:f.ev s.ρ= .fn c caps)
  (ha:b.map (·.ev s.ρ)++caps=args) (h:∀v σ',R v σ'->W P w0 n0 Q (.ops l::k) ⟨s.ρ.put d v,σ'⟩):W P w0 n0 Q (.ops (⟨d,.call f b,g⟩::l)::k) s:=
 .xR hg rfl hf (by rw[ha];exact hc) h
end
def uM(ρ:Env)(d:Nat)(v:V)(k:Nat):Env.put ρ (some d) v k=if k=d then v else ρ k:=rfl
def Sd(ρ:Env)(v:V):Env.put ρ none v=ρ:=rfl
def Se(ρ:Env)(n:Nat):(ah.t n).ev ρ=ρ n:=rfl
def Sf(ρ:Env)(v:V):(ah.k v).ev ρ=v:=rfl
def jC{P:Program}{f:FuncId}{fn:Func}{c:Code}(hf:P.funcs[f]?=some fn)(b:(fn.name== "runtime.NumGoroutine")=false)(e:fn.body=some c):Enters P f:=by
 intro args w;have h1:fn.name≠ "runtime.NumGoroutine":=by simpa using b
 simp[callFunc,hf,h1,e]
section
variable {P:Program} {w0:World} {n0:Nat}
def DC.Sh{f:FuncId}{fn:Func}{x:AC}{r:List ak}{args:List V}{σ:H}{R:V->H->Prop}(e:P.follows .mixedOrders=true)(hf:P.funcs[f]?=some fn)(g:fn.body=some (fn.body.getD .skip))(h:tr P fn.ntmps (fn.body.getD .skip)=some x)
  (i:ko P fn.results.toList=some r) (b:args.length<=fn.ntmps) (c:Enters P f) (j:H.ok σ->(∀x∈args,V.Sz x)->W P w0 σ.length (Fin r σ.length R) [.code x] ⟨ji args,σ⟩):DC P w0 f args σ R:=
 DC.Sc e hf g h i b c j
def Si(n:Nat)(x:C):V.low n (.c x)↔True:=⟨fun _=>trivial,fun _=>.c x⟩
def Sj(n:Nat):V.low n .void↔True:=⟨fun _=>trivial,fun _=>.void⟩
def Sk(n:Nat):V.low n .any↔True:=⟨fun _=>trivial,fun _=>.any⟩
def Sl(n:Nat)(r:List (List C)):V.low n (.ae r)↔True:=⟨fun _=>trivial,fun _=>.ae r⟩
def Sm(n:Nat):V.low n .cu↔True:=⟨fun _=>trivial,fun _=>.cu⟩
def B5(n b m:Nat):V.low n (.vec b m)↔b<n:=⟨fun h=>by cases h;assumption,fun h=>.vec h⟩
def Sn(n b o:Nat):V.low n (.ptr b o)↔b<n:=⟨fun h=>by cases h;assumption,fun h=>.ptr h⟩
def So(n b:Nat)(r:List (List C)):V.low n (.aC b r)↔b<n:=⟨fun h=>by cases h;assumption,fun h=>.aC h⟩
def Sp(n:Nat)(l:List V):V.low n (.agg l)↔∀x∈l,V.low n x:=⟨fun h=>by cases h;assumption,fun h=>.agg h⟩
def B6(n:Nat)(l:List V):V.low n (.au l)↔∀x∈l,V.low n x:=⟨fun h=>by cases h;assumption,fun h=>.au h⟩
def x9(n f:Nat)(l:List V):V.low n (.fn f l)↔∀x∈l,V.low n x:=⟨fun h=>by cases h;assumption,fun h=>.fn h⟩
def Same(d:V)(σ:H):V->H->Prop:=fun b σ'=>b=d/\σ'=σ
def Fin.same{r:List ak}{s:St}{σ:H}{vs:List V}{d:V}(b:H.ok σ)(h:aX s r=some vs)(hd:aT vs=d)(hl:V.low σ.length d)(hσ:∃c,s.σ=σ++c):Fin r σ.length (Same d σ) s:=by
 obtain⟨c,hσ⟩:=hσ;have e:s.σ.take σ.length=σ:=by rw[hσ];exact mh
 exact⟨vs,d,σ,h,by rw[hd];exact .rfl d,hl,by rw[hσ];simp,by rw[e];exact b,by rw[e];exact H.xZ σ,rfl,rfl⟩
end
def bB.quiet:bB->Bool
 | .store ..| .app ..| .mz ..| .box ..| .lB| .kP ..| .kQ ..| .call ..=>false
 |_=>true
def quiet_step{ρ:Env}{σ σ':H}{i:bB}{v:V}(b:i.quiet=true)(h:Lamb.step ρ σ i=some (v,σ')):σ'=σ:=by
 cases i<;>first|(cases b;done)|skip
 all_goals simp only[Lamb.step]at h
 all_goals repeat' split at h
 all_goals first
  |(cases h;done)
  |(injection h with h;injection h with _ h;exact h.symm)
def bB.pure:bB->Bool
 | .store ..| .app ..| .mz ..| .box ..| .lB| .kP ..| .kQ ..| .look ..| .qc ..| .call ..| .my ..| .ez ..=>false
 |_=>true
def Sq{ρ:Env}{σ σ' b:H}{i:bB}{v:V}(c:i.pure=true)(h:Lamb.step ρ σ i=some (v,σ')):Lamb.step ρ b i=some (v,b):=by
 cases i<;>first|(cases c;done)|skip
 all_goals (try simp only[Lamb.step]at h⊢)
 all_goals repeat' split at h
 all_goals first
  |(cases h;done)
  |(injection h with h;injection h with h _;subst h;first|(simp[*];done)|(simp[*];assumption))
def pf(σ:H):List ai->Env->List ai×Env
 |[],ρ=>([],ρ)
 |o::l,ρ=>match bQ ρ o.guard with
  |some true=>if o.ins.quiet then match Lamb.step ρ σ o.ins with
    |some (v,_)=>pf σ l (ρ.put o.dst v)
    |none=>(o::l,ρ)
   else(o::l,ρ)
  |some false=>pf σ l (ρ.put o.dst .void)
  |none=>(o::l,ρ)
section
variable {P:Program} {w0:World} {n0:Nat} {Q:St->Prop}
def Canon.eX{σ:H}{ρ':Env}:∀(l:List ai) (ρ:Env),Canon P w0 σ (pf σ l ρ).1 (pf σ l ρ).2 ρ'->Canon P w0 σ l ρ ρ'
 |[],ρ,h=>h
 |o::l,ρ,h=>by
  simp only[pf]at h;split at h
  ·rename_i hg;split at h
   ·rename_i c;split at h
    ·rename_i v σ' b;have:=quiet_step c b;subst this;exact .cons (.step hg b) (Canon.eX l _ h)
    ·exact h
   ·exact h
  ·rename_i hg;exact .cons (.skip hg) (Canon.eX l _ h)
  ·exact h
def Canon.call{σ:H}{ρ ρ':Env}{d:Option Nat}{f:ah}{b:List ah}{g:Option (Nat×Bool)}{l:List ai}{c:FuncId}{caps args:List V}{v:V}(hc:DC P w0 c args σ (Same v σ))(hg:bQ ρ g=some true)(hf:f.ev ρ= .fn c caps)
  (ha:b.map (·.ev ρ)++caps=args) (h:Canon P w0 σ l (ρ.put d v) ρ'):Canon P w0 σ (⟨d,.call f b,g⟩::l) ρ ρ':=
 .cons (.call hg rfl hf (by rw[ha];exact hc)) h
def ab.call{σ σ' σ1:H}{past c:List H}{ρ ρ':Env}{d:Option Nat}{f:ah}{b:List ah}{g:Option (Nat×Bool)}{i:Nat}{l:List cE}{e:FuncId}{caps args:List V}{v:V}(hc:DC P w0 e args σ (Same v σ1))(hg:bQ ρ g=some true)(hf:f.ev ρ= .fn e caps)
  (ha:b.map (·.ev ρ)++caps=args) (h:ab P w0 l (ρ.put d v) σ1 (σ::past) ρ' σ' c):ab P w0 (⟨⟨d,.call f b,g⟩,true,i⟩::l) ρ σ past ρ' σ' c:=
 .bL (.call hg rfl hf (by rw[ha];exact hc)) h
def W.HT{d:Option Nat}{f:ah}{b:List ah}{g:Option (Nat×Bool)}{l:List ai}{k:List It}{s:St}{c:FuncId}{caps:List V}{args:List V}{v:V}{σ':H}(hc:DC P w0 c args s.σ (Same v σ'))(hg:bQ s.ρ g=some true)(hf:f.ev s.ρ= .fn c caps)
  (ha:b.map (·.ev s.ρ)++caps=args) (h:W P w0 n0 Q (.ops l::k) ⟨s.ρ.put d v,σ'⟩):W P w0 n0 Q (.ops (⟨d,.call f b,g⟩::l)::k) s:=
 .xR (R:=Same v σ') hg rfl hf (by rw[ha];exact hc) (fun v' e ⟨h1,h2⟩=>by subst h1;subst h2;exact h)
end
def cQ(σ L:H):(σ++L)[σ.length]?=L[0]?:=by rw[da (aA _),cw]
def bx(σ L:H)(k:Nat):(σ++L)[σ.length+k]?=L[k]?:=by rw[da (by omega)];congr 1;omega
def Sr{σ:H}(L:H){r:Nat}(h:r<σ.length):(σ++L)[r]?=σ[r]?:=cr h
def sk(σ L:H)(x:ad):(σ++L).set σ.length x=σ++L.set 0 x:=by rw[gX _ _ (aA _),cw]
def cR(σ L:H)(k:Nat)(x:ad):(σ++L).set (σ.length+k) x=σ++L.set k x:=by rw[gX _ _ (by omega)];congr 2;omega
def Ss{σ:H}(L:H){r:Nat}(x:ad)(h:r<σ.length):(σ++L).set r x=σ.set r x++L:=List.set_append_left _ _ h
def Su(σ:H){r:Nat}(x y:ad):(σ.set r x).set r y=σ.set r y:=List.set_set ..
def HU{σ:H}{r:Nat}(x:ad)(h:r<σ.length):(σ.set r x)[r]?=some x:=by simp[h]
def HV{x:C}:V.Sz (.c x)↔C.Sz x:=⟨fun h=>by cases h;assumption,fun h=>.c x h⟩
def B7{l:List V}:V.Sz (.agg l)↔∀x∈l,V.Sz x:=⟨fun h=>by cases h;assumption,fun h=>.agg l h⟩
def Sv{l:List UInt8}:C.Sz (.str l)↔l.length<=maxLen:=⟨fun h=>by cases h;assumption,fun h=>.str l h⟩
def Sw{r:List (List C)}:C.Sz (.sl r)↔r.length<=maxLen/\∀q∈r,∀x∈q,C.Sz x:=⟨fun h=>by cases h;exact⟨by assumption,by assumption⟩,fun h=>.sl r h.1 h.2⟩
def base:Env:=fun _=>.any
def gG(ρ' ρ:Env):Prop:=∀k,V.wk (ρ k) (ρ' k)
def gG.base(ρ:Env):gG Lamb.base ρ:=fun k=>.any _
def gG.put{ρ' ρ:Env}{d:Nat}{v:V}(h:gG ρ' ρ)(c:V.wk (ρ d) v):gG (ρ'.put (some d) v) ρ:=by
 intro k;simp only[uM];by_cases b:k=d
 ·subst b;rw[if_pos rfl];exact c
 ·rw[if_neg b];exact h k
def cK(n:Nat)(ρ:Env):Prop:=∀k,V.low n (ρ k)
def cK.base(n:Nat):cK n Lamb.base:=fun k=>.any
def cK.put{n:Nat}{ρ:Env}{d:Nat}{v:V}(h:cK n ρ)(c:V.low n v):cK n (ρ.put (some d) v):=by
 intro k;simp only[uM];by_cases b:k=d
 ·subst b;rw[if_pos rfl];exact c
 ·rw[if_neg b];exact h k
def aV.env{n0:Nat}{ρ' ρ:Env}{σ:H}(h:gG ρ' ρ):aV n0 ⟨ρ',σ⟩ ⟨ρ,σ⟩:=fun w0 κ0 n κ a w _ b=>
 ⟨κ,b.dk,fun k=>(b.env k).wk (h k),b.size,b.defers,b.le⟩
def aV.cut{n0:Nat}{ρ' ρ:Env}{σ σ':H}(h:gG ρ' ρ)(hn:n0<=σ'.length)(b:σ'.length<=σ.length)(e:H.ok (σ.take σ'.length))(hw:H.wk (σ.take σ'.length) σ')(hl:cK σ'.length ρ'):aV n0 ⟨ρ',σ'⟩ ⟨ρ,σ⟩:=fun w0 κ0 n κ a w g c=>
 ⟨κ.cut σ'.length,(c.dk.cut σ'.length b e).uJ hw,fun k=>((c.env k).wk (h k)).cut (hl k),c.size,c.defers,K.Br c.le (by omega)⟩
def aV.drop{n0:Nat}{ρ' ρ:Env}{σ c:H}(h:gG ρ' ρ)(hn:n0<=σ.length)(b:H.ok σ)(hl:cK σ.length ρ'):aV n0 ⟨ρ',σ⟩ ⟨ρ,σ++c⟩:=
 aV.cut h hn (by simp) (by rw[mh];exact b) (by rw[mh];exact H.xZ σ) hl
def H.Sx{σ c:H}(h:H.ok σ)(k:∀b∈c,∀cs tg,b= .cells cs tg->∀x∈cs,V.low (σ++c).length x):H.ok (σ++c):=by
 intro b hb cs tg hc x e;rcases cJ.1 hb with hb|hb
 ·exact V.xA (by simp) (h b hb cs tg hc x e)
 ·exact k b hb cs tg hc x e
section
variable {P:Program} {w0:World} {n0:Nat} {Q:St->Prop}
def W.aY{c:AC}{k:List It}{s:St}{α:Type}(p:α->Prop)(S:α->St)(b:α->Nat)(g:α)(hp:p g)(h0:aV n0 (S g) s)(h:∀x,p x->W P w0 n0 Q (.code c:: .inv (fun s'=>∃y,p y/\b y<b x/\aV n0 (S y) s')::k) (S x)):W P w0 n0 Q (.code (.loop c)::k) s:=by
 refine .loop (α:={x:α//p x}) (fun x=>S x.1) (fun x=>b x.1) ⟨g,hp⟩ h0 (fun x=>?_);have:=h x.1 x.2;have e:(fun s'=>∃y,p y/\b y<b x.1/\aV n0 (S y) s')=(fun s'=>∃y:{x:α//p x},b y.1<b x.1/\aV n0 (S y.1) s'):=by
  funext s';apply propext;exact⟨fun⟨y,h1,h2⟩=>⟨⟨y,h1⟩,h2⟩,fun⟨y,h⟩=>⟨y.1,y.2,h⟩⟩
 rw[e]at this;exact this
end
def a7{n:Int}(h:-9223372036854775808<=n)(b:n<=9223372036854775807):IntKind.i64.wrap n=n:=by
 unfold IntKind.wrap IntKind.bits IntKind.signed;simp;omega
def rowsOf(size:Nat):Nat->List C->List (List C)
 |0,_=>[]
 |k+1,cs=>cs.take size::rowsOf size k (cs.drop size)
def ya(size:Nat):∀(k:Nat) (cs:List C),(rowsOf size k cs).length=k
 |0,_=>rfl
 |k+1,cs=>by simp[rowsOf,ya size k]
def uN(size:Nat):∀(k:Nat) (cs:List C) (i:Nat) (b:i<(rowsOf size k cs).length),(rowsOf size k cs)[i]=(cs.drop (i*size)).take size
 |0,_,i,b=>by simp[rowsOf]at b
 |k+1,cs,0,_=>by simp[rowsOf]
 |k+1,cs,i+1,b=>by
  simp only[rowsOf,List.getElem_cons_succ];rw[uN size k (cs.drop size) i,List.drop_drop,show size+i*size=(i+1)*size from by rw[fK];omega]
def qo{size:Nat}:∀{rows:List (List C)},(∀r∈rows,r.length=size)->rowsOf size rows.length rows.flatten=rows
 |[],_=>rfl
 |r::l,h=>by
  have c:=h r (by simp);simp only[bG,rowsOf,List.flatten_cons];rw[List.take_append_of_le_length (by omega),dT (by omega),List.drop_append_of_le_length (by omega),List.drop_of_length_le (by omega),List.nil_append,qo (fun q b=>h q (by simp[b]))]
def aB.jj{w0 w:World}{κ:K}{σ:H}(h:aB w0 κ σ w){b e size:Nat}{cs:List C}(P:σ[b]?=some (.vec e size cs)):∃κ',κ.le κ'/\aB w0 κ' (σ.set b .gone) w/\
  ∀k v,k*size<=cs.length->RV κ' (.vec b k) v->RC κ'.m (.sl (rowsOf size k cs)) v:=by
 obtain⟨A,D⟩:=aI.1 P;have c:=h.cg b A;rw[D]at c;obtain⟨vs,n,cap,k0,Q,R,k3,k4,k5,k6⟩:=c.row;have E:κ.le (κ.froze (κ.pos b) vs.toList):=K.Bz c.free;refine⟨κ.froze (κ.pos b) vs.toList,E,(h.G1 b).froze c.free (fun p v L=>?_) (fun j hj=>?_),fun k v Y L=>?_⟩
 ·have M:vs[p]?=some v:=by simpa using L
  simp[World.cell?,Q,M]
 ·have hj':j<σ.length:=by simpa using hj
  by_cases t:j=b
  ·subst t;rw[List.getElem_set_self];exact fun e=>by cases e
  ·rw[List.getElem_set_ne (dz t)];intro e;exact h.apart j b hj' A _ t e (by rw[D];rfl)
 ·cases L with
  |vec Z r2 r3 r4 r5 r6=>
   rename_i n' F;have O:cs.length<=vs.size:=by rw[R,k5];exact jT _ k3
   have G:(vs.toList.take (k*size)).length=k*size:=by simp;omega
   have J:=ya size k cs;have g:∀i (u:i<(rowsOf size k cs).length),(rowsOf size k cs)[i].length=size:=fun i u=>by
    have:(i+1)*size<=k*size:=jT _ (by omega);rw[fK]at this;rw[uN];simp;omega
   have:=RC.sl (m:=(κ.froze (κ.pos b) vs.toList).m) (rowsOf size k cs) size (some ⟨κ.pos b,0,none⟩) F (vs.toList.take (k*size)) (fun r T=>by
    obtain⟨i,u,rfl⟩:=eH T;exact g i u) (by omega) r6 (by rw[G,J]) (fun _=>⟨κ.pos b,0,rfl,fun j hj=>by
     show(if κ.pos b=κ.pos b then _ else _)=_;rw[if_pos rfl,Nat.zero_add,nD,if_pos (by omega)]⟩) (fun i u j hj=>by
    have N:i*size+j<k*size:=mul_lt (by omega) (by rw[<-g i u];exact hj);have U:=(k6 (i*size+j) (by omega)).mono E.m;have X:(rowsOf size k cs)[i][j]=cs[i*size+j]'(by omega):=by
     have:=uN size k cs i u;simp only[this,List.getElem_take,List.getElem_drop]
    rw[X,cx,nD,if_pos N];simpa[iV]using U)
   rw[J]at this;exact this
def aV.jj{n0:Nat}{ρ:Env}{σ:H}{b e size k d:Nat}{cs:List C}(p:σ[b]?=some (.vec e size cs))(r:k*size<=cs.length)(h:ρ d= .vec b k):
  aV n0 ⟨ρ.put (some d) (.c (.sl (rowsOf size k cs))),σ.set b .gone⟩ ⟨ρ,σ⟩:=fun w0 κ0 n κ a w t g=>by
 obtain⟨κ',h1,h2,u⟩:=aB.jj g.dk p;refine⟨κ',h2,fun j=>?_,g.size,g.defers,K.le_trans g.le h1⟩;show RV κ' (Env.put ρ (some d) _ j) _;rw[uM];by_cases hj:j=d
 ·subst hj;rw[if_pos rfl];have i:=g.env j;rw[show(⟨ρ,σ⟩:St).ρ j=ρ j from rfl,h]at i;exact .c (u k _ r (i.mono h1))
 ·rw[if_neg hj];exact(g.env j).mono h1
def W.jj{P:Program}{w0:World}{n0:Nat}{Q:St->Prop}{i:List It}{ρ:Env}{σ:H}{b e size k:Nat}{cs:List C}(d:Nat)(g:ρ d= .vec b k)(j:σ[b]?=some (.vec e size cs))(p:k*size<=cs.length)
 (h:W P w0 n0 Q i ⟨ρ.put (some d) (.c (.sl (rowsOf size k cs))),σ.set b .gone⟩):W P w0 n0 Q i ⟨ρ,σ⟩:=.ek (aV.jj j p g) h
def yb{x y:V}{l r:List V}(h:V.wk x y)(k:V.wk (.agg l) (.agg r)):V.wk (.agg (x::l)) (.agg (y::r)):=by
 have b:r.length=l.length/\∀j (hj:j<l.length) (hj':j<r.length),V.wk l[j] r[j]:=by
  cases k with
  |rfl=>exact⟨rfl,fun j hj hj'=>.rfl _⟩
  |agg h1 h2=>exact⟨h1,h2⟩
 refine .agg (by simp[b.1]) fun j hj hj'=>?_;cases j with
 |zero=>exact h
 |succ j=>exact b.2 j (mm hj) (mm hj')
def Sy{x y:V}{l r:List V}(h:V.wk x y)(k:V.wk (.au l) (.au r)):V.wk (.au (x::l)) (.au (y::r)):=by
 have b:r.length=l.length/\∀j (hj:j<l.length) (hj':j<r.length),V.wk l[j] r[j]:=by
  cases k with
  |rfl=>exact⟨rfl,fun j hj hj'=>.rfl _⟩
  |au h1 h2=>exact⟨h1,h2⟩
 refine .au (by simp[b.1]) fun j hj hj'=>?_;cases j with
 |zero=>exact h
 |succ j=>exact b.2 j (mm hj) (mm hj')
def okB(n:Nat):List ad->Prop
 |[]=>True
 | .cells cs _::l=>(∀x∈cs,V.low n x)/\okB n l
 | .spare ..::l=>okB n l
 | .mp _::l=>okB n l
 | .vec ..::l=>okB n l
 | .gone::l=>okB n l
def sn{n:Nat}:∀{l:List ad},okB n l->∀b∈l,∀cs tg,b= .cells cs tg->∀x∈cs,V.low n x
 |[],_,b,hb,_,_,_,_,_=>by cases hb
 | .cells cs _::l,h,b,hb,cs',c,hc,x,e=>by
   rcases cD.1 hb with rfl|hb
   ·injection hc with hc;subst hc;exact h.1 x e
   ·exact sn h.2 b hb cs' c hc x e
 | .spare ..::l,h,b,hb,cs',c,hc,x,e=>by
   rcases cD.1 hb with rfl|hb
   ·cases hc
   ·exact sn (l:=l) h b hb cs' c hc x e
 | .mp _::l,h,b,hb,cs',c,hc,x,e=>by
   rcases cD.1 hb with rfl|hb
   ·cases hc
   ·exact sn (l:=l) h b hb cs' c hc x e
 | .vec ..::l,h,b,hb,cs',c,hc,x,e=>by
   rcases cD.1 hb with rfl|hb
   ·cases hc
   ·exact sn (l:=l) h b hb cs' c hc x e
 | .gone::l,h,b,hb,cs',c,hc,x,e=>by
   rcases cD.1 hb with rfl|hb
   ·cases hc
   ·exact sn (l:=l) h b hb cs' c hc x e
def H.SA{σ c:H}(h:H.ok σ)(k:okB (σ.length+c.length) c):H.ok (σ++c):=
 H.Sx h fun b e cs tg hc x g=>by rw[bC];exact sn k b e cs tg hc x g
def cT:List ad->List ad->Prop
 |[],[]=>True
 |x::l,y::r=>ad.wk x y/\cT l r
 |_,_=>False
def HW:∀{l r:List ad},cT l r->l.length=r.length/\∀j (hj:j<l.length) (hj':j<r.length),ad.wk l[j] r[j]
 |[],[],_=>⟨rfl,fun j hj=>by simp at hj⟩
 |x::l,y::r,h=>by
  obtain⟨h1,h2⟩:=HW h.2;refine⟨by simp[h1],fun j hj hj'=>?_⟩;cases j with
  |zero=>exact h.1
  |succ j=>exact h2 j (mm hj) (mm hj')
 |[],_::_,h=>h.elim
 |_::_,[],h=>h.elim
def aV.lJ{n0:Nat}{ρ' ρ:Env}{σ L b:H}(hσ:H.ok σ)(h:gG ρ' ρ)(hn:n0<=σ.length+b.length)(e:b.length<=L.length)(g:okB (σ.length+b.length) (L.take b.length))(hw:cT (L.take b.length) b)(hl:cK (σ.length+b.length) ρ'):
  aV n0 ⟨ρ',σ++b⟩ ⟨ρ,σ++L⟩:=by
 have p:(σ++L).take (σ++b).length=σ++L.take b.length:=by rw[bC,List.take_append,dT (by omega)];congr 2;omega
 have i:(L.take b.length).length=b.length:=by simp[e]
 refine aV.cut h (by simpa using hn) (by simpa using e) (by rw[p];exact H.SA hσ (by rw[i];exact g)) ?_ (by simpa using hl);rw[p];obtain⟨h1,h2⟩:=HW hw;refine⟨by simp[h1],fun j hj hj'=>?_⟩;rcases eh j σ.length with c|c
 ·rw[cM c,cM c];exact .rfl _
 ·rw[dY c,dY c];exact h2 _ (by simp at hj;simp;omega) (by simp at hj';omega)
def Fin.gen{r:List ak}{s:St}{σ' e:H}{vs:List V}{d:V}{n0:Nat}{R:V->H->Prop}(b:H.ok σ')(hn:σ'.length=n0)(h:aX s r=some vs)(hd:V.wk (aT vs) d)(hl:V.low n0 d)(hσ:s.σ=σ'++e)(g:R d σ'):Fin r n0 R s:=by
 subst hn;have c:s.σ.take σ'.length=σ':=by rw[hσ];exact mh
 exact⟨vs,d,σ',h,hd,hl,by rw[hσ];simp,by rw[c];exact b,by rw[c];exact H.xZ σ',g⟩
def Fin.lK{r:List ak}{s:St}{σ' c:H}{vs:List V}{d:V}{n0:Nat}(b:H.ok σ')(hn:σ'.length=n0)(h:aX s r=some vs)(hd:V.wk (aT vs) d)(hl:V.low n0 d)(hσ:s.σ=σ'++c):Fin r n0 (Same d σ') s:=
 Fin.gen b hn h hd hl hσ ⟨rfl,rfl⟩
def ad.lL{cs ds:List V}{tg:Option TypeId}(h:V.wk (.agg cs) (.agg ds))(hl:leaves ds=true):ad.wk (.cells cs tg) (.cells ds tg):=by
 cases h with
 |rfl=>exact .rfl _
 |agg h1 h2=>exact .cells h1 h2 hl
def B8(σ L:H)(b:Nat)(x:ad):(σ.set b x++L)[σ.length]?=L[0]?:=by
 have:=cQ (σ.set b x) L;rwa [bz]at this
def yc(σ L:H)(b:Nat)(x:ad)(k:Nat):(σ.set b x++L)[σ.length+k]?=L[k]?:=by
 have:=bx (σ.set b x) L k;rwa [bz]at this
def B9(σ L:H)(b:Nat)(x y:ad):(σ.set b x++L).set σ.length y=σ.set b x++L.set 0 y:=by
 have:=sk (σ.set b x) L y;rwa [bz]at this
def gF(σ L:H)(b:Nat)(x y:ad)(k:Nat):(σ.set b x++L).set (σ.length+k) y=σ.set b x++L.set k y:=by
 have:=cR (σ.set b x) L k y;rwa [bz]at this
def hG{σ:H}{b:Nat}{x:ad}(c:σ[b]?=some x)(L:H):(σ++L)[b]?=some x:=(Sr L (aI.1 c).1).trans c
def hS{σ:H}{b:Nat}{x:ad}(c:σ[b]?=some x)(y:ad)(L:H):(σ++L).set b y=σ.set b y++L:=Ss L y (aI.1 c).1
def qp{σ:H}{b:Nat}{x:ad}(c:σ[b]?=some x):σ.set b x=σ:=by
 obtain⟨h,rfl⟩:=aI.1 c;exact List.set_getElem_self h
def fU(K:List cE->Env->H->List H->Prop):List cE->Env->H->List H->Prop
 |[],ρ,σ,past=>K [] ρ σ past
 |⟨o,b,c⟩::l,ρ,σ,past=>match bQ ρ o.guard with
  |some true=>match b with
   |true=>match Lamb.step ρ σ o.ins with
    |some (v,σ1)=>fU K l (ρ.put o.dst v) σ1 (σ::past)
    |none=>K (⟨o,true,c⟩::l) ρ σ past
   |false=>match o.ins.quiet with
    |true=>match Lamb.step ρ σ o.ins with
     |some (v,_)=>(∀e∈past.take (past.length-c),Lamb.step ρ e o.ins=some (v,e))/\fU K l (ρ.put o.dst v) σ past
     |none=>K (⟨o,false,c⟩::l) ρ σ past
    |false=>K (⟨o,false,c⟩::l) ρ σ past
  |some false=>match b with
   |true=>fU K l (ρ.put o.dst .void) σ (σ::past)
   |false=>fU K l (ρ.put o.dst .void) σ past
  |none=>K (⟨o,b,c⟩::l) ρ σ past
section
variable {P:Program} {w0:World}
def ab.fU{ρ':Env}{σ':H}{c:List H}:∀(l:List cE) (ρ:Env) (σ:H) (past:List H),Lamb.fU (fun l ρ σ past=>ab P w0 l ρ σ past ρ' σ' c) l ρ σ past->ab P w0 l ρ σ past ρ' σ' c
 |[],ρ,σ,past,h=>h
 |⟨o,b,p⟩::l,ρ,σ,past,h=>by
  simp only[Lamb.fU]at h;split at h
  ·rename_i hg;split at h
   ·split at h
    ·rename_i v σ1 e;exact .bL (.step hg e) (ab.fU l _ _ _ h)
    ·exact h
   ·split at h
    ·rename_i j;split at h
     ·rename_i v σ1 e;have hσ:=quiet_step j e;subst hσ;exact .quiet (.step hg e) (fun i g=>.step hg (h.1 i g)) (ab.fU l _ _ _ h.2)
     ·exact h
    ·exact h
  ·rename_i hg;split at h
   ·exact .bL (.skip hg) (ab.fU l _ _ _ h)
   ·exact .quiet (.skip hg) (fun i _=>.skip hg) (ab.fU l _ _ _ h)
  ·exact h
def ab.nO{σ σ':H}{past c:List H}{ρ ρ':Env}{d:Option Nat}{f:ah}{b:List ah}{g:Option (Nat×Bool)}{j:Nat}{l:List cE}{e:FuncId}{caps args:List V}{v:V}(hc:∀i,DC P w0 e args i (Same v i))(hg:bQ ρ g=some true)(hf:f.ev ρ= .fn e caps)
  (ha:b.map (·.ev ρ)++caps=args) (h:ab P w0 l (ρ.put d v) σ past ρ' σ' c):ab P w0 (⟨⟨d,.call f b,g⟩,false,j⟩::l) ρ σ past ρ' σ' c:=
 .quiet (.call hg rfl hf (by rw[ha];exact hc σ)) (fun i _=>.call hg rfl hf (by rw[ha];exact hc i)) h

end
def tP:List UInt8:=[32,9,10,13]
theorem adp(l:List UInt8):(Lib.trimLeftS l tP).length<=l.length:=by
 unfold Lib.trimLeftS;exact(List.dropWhile_sublist _).length_le

def decFrom(b:Nat)(l:List UInt8):Nat:=l.foldl (fun n c=>n*10+(c.toNat-48)) b
def Qa(l:List UInt8):Nat:=decFrom 0 l
structure AV where
 kind:Int
 text:List UInt8
 n:Int
 len:Nat
 err:Int
def wT(kind:Int)(n:Nat)(l:List UInt8):AV:=if 32<n then⟨0,[],0,0,12⟩else⟨kind,l.take n,0,n,0⟩
def P9(l:List UInt8):AV:=
 if Qa (l.take (fq np l))<9223372036854775808 then⟨3,[],((Qa (l.take (fq np l)):Nat):Int),fq np l,0⟩else⟨0,[],0,0,11⟩
def Gp:List UInt8->AV
 |[]=>⟨0,[],0,0,0⟩
 |c::l=>
  if Qb c≠0 then⟨Qb c,[],0,1,0⟩
  else if np c then P9 (c::l)
  else if nn c then wT 1 (fq kJ (c::l)) (c::l)
  else if wO c then wT 2 (fq kJ (c::l)) (c::l)
  else if kB c then wT 4 (fq kB (c::l)) (c::l)
  else if rN.contains c then wT 4 1 (c::l)
  else⟨0,[],0,0,10⟩

structure Tok where
 kind:Int
 text:List UInt8
 n:Int
 pos:Int
 deriving DecidableEq
theorem NL{l:List UInt8}:(Gp l).len<=l.length:=by
 cases l with
 |nil=>simp[Gp]
 |cons c l=>
  have b:=Gq np (c::l);have e:=Gq kJ (c::l);have g:=Gq kB (c::l);simp only[Gp,P9,wT]
  repeat' split
  all_goals simp only[List.length_cons]at*
  all_goals omega

structure eO where
 name:List UInt8
 prec:Int
 fix:Int
 deriving DecidableEq,Inhabited
inductive al where
 |mk (k:Int) (name:List UInt8) (n:Int) (l:List al) (pos:Int)
 deriving Inhabited
def al.k:al->Int| .mk k _ _ _ _=>k
def al.name:al->List UInt8| .mk _ s _ _ _=>s
def al.n:al->Int| .mk _ _ n _ _=>n
def al.l:al->List al| .mk _ _ _ l _=>l
def al.pos:al->Int| .mk _ _ _ _ a=>a
def al.app(a b:al)(pos:Int):al:=.mk 3 [] 0 [a,b] pos
def Tg(o:eO)(pos:Int)(a b:al):al:=al.app (al.app (.mk 0 o.name 0 [] pos) a pos) b pos

abbrev mF:=List It->St->Prop
def so(K:mF)(f:Nat)(k:List It)(s:St):Prop:=K (Lamb.eX f k s).1 (Lamb.eX f k s).2
def yd(x:Option (V×H))(K:mF)(f:Nat)(o:ai)(l:List ai)(k:List It)(s:St):Prop:=match x with
 |some (v,b)=>so K f (.ops l::k) ⟨s.ρ.put o.dst v,b⟩
 |none=>K (.ops (o::l)::k) s
def Ca(x:Option Bool)(K:mF)(f:Nat)(o:ai)(l:List ai)(k:List It)(s:St):Prop:=match x with
 |some true=>yd (step s.ρ s.σ o.ins) K f o l k s
 |some false=>so K f (.ops l::k) ⟨s.ρ.put o.dst .void,s.σ⟩
 |none=>K (.ops (o::l)::k) s
theorem sq:Nonempty {g:(mF->Nat->List It->St->Prop)×(Option Bool->mF->Nat->ai->List ai->List It->St->Prop)×(Option (V×H)->mF->Nat->ai->List ai->List It->St->Prop)//g=(so,Ca,yd)}:=⟨⟨_,rfl⟩⟩
noncomputable def cp:mF->Nat->List It->St->Prop:=(fO sq).1.1
noncomputable def kU:Option Bool->mF->Nat->ai->List ai->List It->St->Prop:=(fO sq).1.2.1
noncomputable def uO:Option (V×H)->mF->Nat->ai->List ai->List It->St->Prop:=(fO sq).1.2.2
def gp:cp=so:=by unfold cp;rw[(fO sq).2]
def ye:kU=Ca:=by unfold kU;rw[(fO sq).2]
def Cb:uO=yd:=by unfold uO;rw[(fO sq).2]
section
variable (K:mF) (f:Nat) (k:List It) (s:St)
def SB:cp K (f+1) (.code .skip::k) s=cp K f k s:=by rw[gp];rfl
def SC(l:List ai):cp K (f+1) (.code (.ax l)::k) s=cp K f (.ops l::k) s:=by rw[gp];rfl
def SD(a b:AC):cp K (f+1) (.code (.seq a b)::k) s=cp K f (.code a:: .code b::k) s:=by rw[gp];rfl
def SE(id:Nat)(c:AC):cp K (f+1) (.code (.block id c)::k) s=cp K f (.code c:: .gn id::k) s:=by rw[gp];rfl
def SF(id:Nat):cp K (f+1) (.code (.exit id)::k) s=(match jh id k with
  |some b=>cp K f b s
  |none=>K (.code (.exit id)::k) s):=by
 rw[gp];unfold so;simp only[Lamb.eX];generalize jh id k=x;cases x<;>rfl
def SG(id:Nat):cp K (f+1) (.gn id::k) s=cp K f k s:=by rw[gp];rfl
def SH:cp K (f+1) (.ops []::k) s=cp K f k s:=by rw[gp];rfl
def SI(o:ai)(l:List ai):cp K (f+1) (.ops (o::l)::k) s=kU (bQ s.ρ o.guard) K f o l k s:=by
 rw[gp,ye];unfold so Ca yd;simp only[Lamb.eX];generalize bQ s.ρ o.guard=x;generalize step s.ρ s.σ o.ins=y;rcases x with _|b
 ·rfl
 ·cases b
  ·rfl
  ·rcases y with _|⟨v,c⟩<;>rfl
def SJ(o:ai)(l:List ai):kU (some true) K f o l k s=uO (step s.ρ s.σ o.ins) K f o l k s:=by rw[ye,Cb];rfl
def SK(o:ai)(l:List ai):kU (some false) K f o l k s=cp K f (.ops l::k) ⟨s.ρ.put o.dst .void,s.σ⟩:=by rw[ye,gp];rfl
def SL(o:ai)(l:List ai):kU none K f o l k s=K (.ops (o::l)::k) s:=by rw[ye];rfl
def SM(v:V)(b:H)(o:ai)(l:List ai):uO (some (v,b)) K f o l k s=cp K f (.ops l::k) ⟨s.ρ.put o.dst v,b⟩:=by rw[Cb,gp];rfl
def SN(o:ai)(l:List ai):uO none K f o l k s=K (.ops (o::l)::k) s:=by rw[Cb];rfl
def SO(c:ah)(x y:AC):cp K (f+1) (.code (.cond c x y)::k) s=K (.code (.cond c x y)::k) s:=by rw[gp];rfl
def SP(c:AC):cp K (f+1) (.code (.loop c)::k) s=K (.code (.loop c)::k) s:=by rw[gp];rfl
def SQ(l:List ai)(e:List cE):cp K (f+1) (.code (.ff l e)::k) s=K (.code (.ff l e)::k) s:=by rw[gp];rfl
def SR:cp K (f+1) (.code .ret::k) s=K (.code .ret::k) s:=by rw[gp];rfl
def SS:cp K (f+1) (.code .bad::k) s=K (.code .bad::k) s:=by rw[gp];rfl
def SU(I:St->Prop):cp K (f+1) (.inv I::k) s=K (.inv I::k) s:=by rw[gp];rfl
def SV:cp K (f+1) [] s=K [] s:=by rw[gp];rfl
def SW:cp K 0 k s=K k s:=by rw[gp];rfl
def jk{b:Bool}{o:ai}{l:List ai}(c:b=true->kU (some true) K f o l k s)(e:b=false->kU (some false) K f o l k s):kU (some b) K f o l k s:=by
 cases b
 ·exact e rfl
 ·exact c rfl
def jl{b:Bool}{o:ai}{l:List ai}(c:b=true->kU (some false) K f o l k s)(e:b=false->kU (some true) K f o l k s):kU (some (!b)) K f o l k s:=by
 cases b
 ·exact e rfl
 ·exact c rfl
end
def W.sr{P:Program}{w0:World}{n0:Nat}{Q:St->Prop}{c:ah}{x y:AC}{k:List It}{s:St}{t:Bool}(hc:c.ev s.ρ= .c (.bool (!t)))(b:t=true->W P w0 n0 Q (.code y::k) s)(g:t=false->W P w0 n0 Q (.code x::k) s):W P w0 n0 Q (.code (.cond c x y)::k) s:=by
 cases t
 ·exact .cond hc (fun _=>g rfl) (fun e=>by cases e)
 ·exact .cond hc (fun e=>by cases e) (fun _=>b rfl)
def W.cp{P:Program}{w0:World}{n0:Nat}{Q:St->Prop}(f:Nat)(k:List It)(s:St)(h:Lamb.cp (W P w0 n0 Q) f k s):W P w0 n0 Q k s:=W.eX f k s (by rw[gp]at h;exact h)
abbrev eB:=List cE->Env->H->List H->Prop
def yf(x:Option (V×H))(K:eB)(o:ai)(lo:Nat)(l:List cE)(ρ:Env)(σ:H)(past:List H):Prop:=match x with
 |some (v,σ1)=>Lamb.fU K l (ρ.put o.dst v) σ1 (σ::past)
 |none=>K (⟨o,true,lo⟩::l) ρ σ past
def Cc(x:Option Bool)(K:eB)(o:ai)(lo:Nat)(l:List cE)(ρ:Env)(σ:H)(past:List H):Prop:=match x with
 |some true=>yf (step ρ σ o.ins) K o lo l ρ σ past
 |some false=>Lamb.fU K l (ρ.put o.dst .void) σ (σ::past)
 |none=>K (⟨o,true,lo⟩::l) ρ σ past
def yg(q:Bool)(x:Option (V×H))(K:eB)(o:ai)(lo:Nat)(l:List cE)(ρ:Env)(σ:H)(past:List H):Prop:=match q with
 |true=>match x with
  |some (v,_)=>(∀b∈past.take (past.length-lo),Lamb.step ρ b o.ins=some (v,b))/\Lamb.fU K l (ρ.put o.dst v) σ past
  |none=>K (⟨o,false,lo⟩::l) ρ σ past
 |false=>K (⟨o,false,lo⟩::l) ρ σ past
def Cd(x:Option Bool)(K:eB)(o:ai)(lo:Nat)(l:List cE)(ρ:Env)(σ:H)(past:List H):Prop:=match x with
 |some true=>yg o.ins.quiet (step ρ σ o.ins) K o lo l ρ σ past
 |some false=>Lamb.fU K l (ρ.put o.dst .void) σ past
 |none=>K (⟨o,false,lo⟩::l) ρ σ past
theorem mG:Nonempty {g:(eB->eB)×(Option (V×H)->eB->ai->Nat->eB)×(Option Bool->eB->ai->Nat->eB)×(Bool->Option (V×H)->eB->ai->Nat->eB)×(Option Bool->eB->ai->Nat->eB)//g=(Lamb.fU,yf,Cc,yg,Cd)}:=⟨⟨_,rfl⟩⟩
noncomputable def aj:eB->eB:=(fO mG).1.1
noncomputable def uP:Option (V×H)->eB->ai->Nat->eB:=(fO mG).1.2.1
noncomputable def pL:Option Bool->eB->ai->Nat->eB:=(fO mG).1.2.2.1
noncomputable def uQ:Bool->Option (V×H)->eB->ai->Nat->eB:=(fO mG).1.2.2.2.1
noncomputable def pQ:Option Bool->eB->ai->Nat->eB:=(fO mG).1.2.2.2.2
def pg:aj=Lamb.fU:=by unfold aj;rw[(fO mG).2]
def Ce:uP=yf:=by unfold uP;rw[(fO mG).2]
def Cf:pL=Cc:=by unfold pL;rw[(fO mG).2]
def Cg:uQ=yg:=by unfold uQ;rw[(fO mG).2]
def Ch:pQ=Cd:=by unfold pQ;rw[(fO mG).2]
section
variable (K:eB) (o:ai) (lo:Nat) (l:List cE) (ρ:Env) (σ:H) (past:List H)
def SX:aj K [] ρ σ past=K [] ρ σ past:=by rw[pg];rfl
def SY:aj K (⟨o,true,lo⟩::l) ρ σ past=pL (bQ ρ o.guard) K o lo l ρ σ past:=by
 rw[pg,Cf];unfold Cc yf;simp only[Lamb.fU]<;>rfl
def SZ:pL (some true) K o lo l ρ σ past=uP (step ρ σ o.ins) K o lo l ρ σ past:=by rw[Cf,Ce];rfl
def S2:pL (some false) K o lo l ρ σ past=aj K l (ρ.put o.dst .void) σ (σ::past):=by rw[Cf,pg];rfl
def S3(v:V)(σ1:H):uP (some (v,σ1)) K o lo l ρ σ past=aj K l (ρ.put o.dst v) σ1 (σ::past):=by rw[Ce,pg];rfl
def S4:uP none K o lo l ρ σ past=K (⟨o,true,lo⟩::l) ρ σ past:=by rw[Ce];rfl
def S5:aj K (⟨o,false,lo⟩::l) ρ σ past=pQ (bQ ρ o.guard) K o lo l ρ σ past:=by
 rw[pg,Ch];unfold Cd yg;simp only[Lamb.fU]<;>rfl
def S6:pQ (some true) K o lo l ρ σ past=uQ o.ins.quiet (step ρ σ o.ins) K o lo l ρ σ past:=by rw[Ch,Cg];rfl
def S7:pQ (some false) K o lo l ρ σ past=aj K l (ρ.put o.dst .void) σ past:=by rw[Ch,pg];rfl
def S8(v:V)(σ1:H):uQ true (some (v,σ1)) K o lo l ρ σ past=((∀b∈past.take (past.length-lo),Lamb.step ρ b o.ins=some (v,b))/\aj K l (ρ.put o.dst v) σ past):=by rw[Cg,pg];rfl
def S9(x:Option (V×H)):uQ false x K o lo l ρ σ past=K (⟨o,false,lo⟩::l) ρ σ past:=by rw[Cg];rfl
end
abbrev mH:=List ai->Env->Prop
def su(K:mH)(σ:H)(l:List ai)(ρ:Env):Prop:=K (Lamb.pf σ l ρ).1 (Lamb.pf σ l ρ).2
def yi(q:Bool)(x:Option (V×H))(K:mH)(σ:H)(o:ai)(l:List ai)(ρ:Env):Prop:=match q with
 |true=>match x with
  |some (v,_)=>su K σ l (ρ.put o.dst v)
  |none=>K (o::l) ρ
 |false=>K (o::l) ρ
def Ci(x:Option Bool)(K:mH)(σ:H)(o:ai)(l:List ai)(ρ:Env):Prop:=match x with
 |some true=>yi o.ins.quiet (step ρ σ o.ins) K σ o l ρ
 |some false=>su K σ l (ρ.put o.dst .void)
 |none=>K (o::l) ρ
theorem sw:Nonempty {g:(mH->H->List ai->Env->Prop)×(Bool->Option (V×H)->mH->H->ai->List ai->Env->Prop)×(Option Bool->mH->H->ai->List ai->Env->Prop)//g=(su,yi,Ci)}:=⟨⟨_,rfl⟩⟩
noncomputable def gH:mH->H->List ai->Env->Prop:=(fO sw).1.1
noncomputable def cS:Bool->Option (V×H)->mH->H->ai->List ai->Env->Prop:=(fO sw).1.2.1
noncomputable def cG:Option Bool->mH->H->ai->List ai->Env->Prop:=(fO sw).1.2.2
def uR:gH=su:=by unfold gH;rw[(fO sw).2]
def Cj:cS=yi:=by unfold cS;rw[(fO sw).2]
def Ck:cG=Ci:=by unfold cG;rw[(fO sw).2]
section
variable (K:mH) (σ:H) (o:ai) (l:List ai) (ρ:Env)
def mI:gH K σ [] ρ=K [] ρ:=by rw[uR];rfl
def mJ:gH K σ (o::l) ρ=cG (bQ ρ o.guard) K σ o l ρ:=by
 rw[uR,Ck];unfold su Ci yi su;simp only[Lamb.pf];generalize bQ ρ o.guard=x;generalize step ρ σ o.ins=y;generalize o.ins.quiet=q;rcases x with _|b
 ·rfl
 ·cases b
  ·rfl
  ·cases q
   ·rfl
   ·rcases y with _|⟨v,c⟩<;>rfl
def mK:cG (some true) K σ o l ρ=cS o.ins.quiet (step ρ σ o.ins) K σ o l ρ:=by rw[Ck,Cj];rfl
def mL:cG (some false) K σ o l ρ=gH K σ l (ρ.put o.dst .void):=by rw[Ck,uR];rfl
def mM(v:V)(σ1:H):cS true (some (v,σ1)) K σ o l ρ=gH K σ l (ρ.put o.dst v):=by rw[Cj,uR];rfl
def mN(x:Option (V×H)):cS false x K σ o l ρ=K (o::l) ρ:=by rw[Cj];rfl
end
section
variable {P:Program} {w0:World}
def ab.aj{c:Env}{e:H}{b:List H}(l:List cE)(ρ:Env)(σ:H)(past:List H)(h:Lamb.aj (fun l ρ σ past=>ab P w0 l ρ σ past c e b) l ρ σ past):ab P w0 l ρ σ past c e b:=ab.fU l ρ σ past (by rw[<-pg];exact h)
def Canon.gH{σ:H}{b:Env}(l:List ai)(ρ:Env)(h:Lamb.gH (fun l ρ=>Canon P w0 σ l ρ b) σ l ρ):Canon P w0 σ l ρ b:=Canon.eX l ρ (by rw[uR]at h;exact h)
end
def DC.gI{P:Program}{w0:World}{f:FuncId}{args b:List V}{σ:H}{R:V->H->Prop}(h:DC P w0 f b σ R)(hw:V.wk (.agg args) (.agg b)):DC P w0 f args σ R:=
 ⟨h.enters,fun κ w vs c hf=>h.run κ w vs c (by
   have g:RV κ (.agg args) (.agg vs.toArray):=.agg hf.1 hf.2;have e:=RV.wk hw g;generalize i:vs.toArray=x at e;cases e with
   |agg j p=>
    have:vs=_:=List.toArray_inj i;subst this;exact⟨j,p⟩)⟩
def W.Ta{P:Program}{w0:World}{n0:Nat}{Q:St->Prop}{d:Option Nat}{f:ah}{b:List ah}{g:Option (Nat×Bool)}{l:List ai}{k:List It}{s:St}{e:FuncId}{caps:List V}{args c:List V}{v:V}{i:H}(hc:DC P w0 e c s.σ (Same v i))(hg:bQ s.ρ g=some true)(hf:f.ev s.ρ= .fn e caps)
  (ha:b.map (·.ev s.ρ)++caps=args) (hw:V.wk (.agg args) (.agg c)) (h:W P w0 n0 Q (.ops l::k) ⟨s.ρ.put d v,i⟩):W P w0 n0 Q (.ops (⟨d,.call f b,g⟩::l)::k) s:=
 W.HT (hc.gI hw) hg hf ha h
def ab.ph{P:Program}{w0:World}{σ i σ1:H}{past c:List H}{ρ j:Env}{d:Option Nat}{f:ah}{b:List ah}{g:Option (Nat×Bool)}{lo:Nat}{l:List cE}{p:FuncId}{caps args e:List V}{v:V}(hc:DC P w0 p e σ (Same v σ1))(hg:bQ ρ g=some true)(hf:f.ev ρ= .fn p caps)
  (ha:b.map (·.ev ρ)++caps=args) (hw:V.wk (.agg args) (.agg e)) (h:ab P w0 l (ρ.put d v) σ1 (σ::past) j i c):ab P w0 (⟨⟨d,.call f b,g⟩,true,lo⟩::l) ρ σ past j i c:=
 ab.call (hc.gI hw) hg hf ha h
def mO{a b:Bool}(h:a=b):V.wk (.c (.bool a)) (.c (.bool b)):=by subst h;exact .rfl _
def V.Tb(n f:Nat):V.low n (.fn f []):=.fn (by simp)
abbrev ai.o(d:Nat)(i:bB):ai:=⟨some d,i,none⟩
abbrev ai.m(d s:Nat):ai:=⟨some d,.jc (.t s),none⟩
abbrev ai.f(d k s:Nat):ai:=⟨some d,.o7 k (.t s),none⟩
abbrev ai.l(d s:Nat):ai:=⟨some d,.my (.t s),none⟩
abbrev ai.d(d n s:Nat):ai:=⟨some d,.ez n (.t s),none⟩
abbrev ai.n(d s:Nat):ai:=⟨some d,.iD (.t s),none⟩
abbrev ai.x(d s k:Nat):ai:=⟨some d,.ext (.t s) k,none⟩
abbrev ai.s(n a b:Nat):ai:=⟨none,.store n (.t a) (.t b),none⟩
abbrev ai.k(d f:Nat)(l:List ah):ai:=⟨some d,.call (.k (.fn f [])) l,none⟩
abbrev ai.y(d:Nat)(i:bB)(g:Nat):ai:=⟨some d,i,some (g,true)⟩
abbrev ai.z(d:Nat)(i:bB)(g:Nat):ai:=⟨some d,i,some (g,false)⟩
abbrev cE.q(o:ai):cE:=⟨o,false,0⟩
structure aq (P:Program) (f:FuncId) (n:Nat) (fn:Func) (x:AC) (r:List ak):Prop where
 hm:P.follows .mixedOrders=true
 hf:P.funcs[f]?=some fn
 hb:fn.body=some (fn.body.getD .skip)
 ag:tr P fn.ntmps (fn.body.getD .skip)=some x
 dI:ko P fn.results.toList=some r
 hn:n<=fn.ntmps
 en:Enters P f
def zK(n:Int):ah:=.k (.c (.int .i64 n))
def zT:ah:=.k (.c (.bool true))
def zF:ah:=.k (.c (.bool false))
def zS4:List V:=[.c (.int .i64 0),.c (.str []),.c (.int .i64 0),.ae []]
instance(n:Nat):OfNat ah n:=⟨.t n⟩
def opdN(n:Nat):(OfNat.ofNat n:ah)=.t (OfNat.ofNat n):=rfl
def rsq(l:List ai)(x:AC):AC:=.seq (.ax l) x
def rif(l:List ai)(t:ah)(x y:AC):AC:=.seq (.ax l) (.cond t x y)
def forL(i j:Nat)(a:List ai)(t:ah)(x:AC)(b:List ai):AC:=.block i (.loop (.seq (.seq (.ax a) (.cond t .skip (.exit i))) (.seq (.block j x) (.ax b))))
def eopAt(l:List ai)(k:Nat):cE:=⟨l.getD (k%100) (.n 0 0),k/100%2==1,k/200⟩
def drg(l:List ai)(e:List Nat):AC:=.ff l (e.map (eopAt l))
def zI:V:=.c (.int .i64 0)
def zC:V:=.c (.str [])
def oK(d:Nat)(n:Int):ai:=.o d (.jc (.k (.c (.int .i64 n))))
def oF(d:Nat):ai:=.o d (.jc (.k (.c (.bool false))))
def oV(d:Nat):ai:=.o d (.jc (.k (.c (.bool true))))
def oN(d:Nat):ai:=.o d (.jc (.k (.ae [])))
def oA(d:Nat)(l:List V):ai:=.o d (.box (.k (.agg l)))
def oB(d:Nat)(x:ah):ai:=.o d (.box x)
def oI(d:Nat)(o:BinOp)(x y:ah):ai:=.o d (.bin o x y)
def oP(d:Nat)(c x y:ah):ai:=.o d (.pick c x y)
def oD(d:Nat)(z:List V)(p:List (Nat×Nat×ah)):ai:=.o d (.build z p)
def oJ(d:Nat)(s:Nat)(x y:ah):ai:=.o d (.dm s x y)
def oL(d:Nat)(x:ah):ai:=.o d (.eM x)
def oS(d:Nat)(s:Nat)(p:List ah):ai:=.o d (.o6 s p)
def oQ(d:Nat)(e:TypeId)(s b:Nat)(x y:ah):ai:=.o d (.app e s b x y)
def oU(d:Nat)(o:UnOp)(x:ah):ai:=.o d (.un o x)
def yI(d:Nat)(o:BinOp)(x y:ah)(g:Nat):ai:=.y d (.bin o x y) g
def yF(d:Nat)(k:Nat)(x:ah)(g:Nat):ai:=.y d (.o7 k x) g
def yL(d:Nat)(x:ah)(g:Nat):ai:=.y d (.my x) g
def yV(d:Nat)(x:ah)(g:Nat):ai:=.y d (.jc x) g
def yM(d:Nat)(x:ah)(g:Nat):ai:=.y d (.eM x) g
def yJ(d:Nat)(s:Nat)(x y:ah)(g:Nat):ai:=.y d (.dm s x y) g
def yB(d:Nat)(o:BinOp)(x y:ah)(g:Nat):ai:=.z d (.bin o x y) g
def yX(d:Nat)(k:Nat)(x:ah)(g:Nat):ai:=.z d (.o7 k x) g
def yT(d:Nat)(x:ah)(g:Nat):ai:=.z d (.my x) g
def yW(d:Nat)(x:ah)(g:Nat):ai:=.z d (.jc x) g
def aq.auto{P:Program}{f:FuncId}{n:Nat}{fn:Func}{x:AC}{r:List ak}(hf:P.funcs[f]?=some fn)(hm:P.follows .mixedOrders=true:=by kernel_rfl)(hb:fn.body=some (fn.body.getD .skip):=by rfl)(ag:tr P fn.ntmps (fn.body.getD .skip)=some x:=by kernel_rfl)
 (dI:ko P fn.results.toList=some r:=by kernel_rfl) (hn:n<=fn.ntmps:=by decide) (b:(fn.name== "runtime.NumGoroutine")=false:=by kernel_rfl):aq P f n fn x r:=⟨hm,hf,hb,ag,dI,hn,jC hf b hb⟩
def aq.go{P:Program}{f:FuncId}{n:Nat}{fn:Func}{x:AC}{r:List ak}(K:aq P f n fn x r){w0:World}{args:List V}{σ:H}{R:V->H->Prop}(ha:args.length=n)(h:H.ok σ->(∀x∈args,V.Sz x)->W P w0 σ.length (Fin r σ.length R) [.code x] ⟨ji args,σ⟩):DC P w0 f args σ R:=
 DC.Sh K.hm K.hf K.hb K.ag K.dI (by rw[ha];exact K.hn) K.en h
section
variable {P:Program} {w0:World} {n0:Nat} {Q:St->Prop}
def bl{k:List It}{s:St}(h:Lamb.cp (W P w0 n0 Q) 5000 k s):W P w0 n0 Q k s:=W.cp 5000 k s h
def db{d:Option Nat}{f:ah}{b:List ah}{g:Option (Nat×Bool)}{l:List ai}{k:List It}{s:St}{c:FuncId}{caps:List V}{args:List V}{v:V}{e:H}(hc:DC P w0 c args s.σ (Same v e))(h:Lamb.cp (W P w0 n0 Q) 5000 (.ops l::k) ⟨s.ρ.put d v,e⟩)
 (hg:bQ s.ρ g=some true:=by rfl) (hf:f.ev s.ρ= .fn c caps:=by rfl) (ha:b.map (·.ev s.ρ)++caps=args:=by first|rfl|simp):W P w0 n0 Q (.ops (⟨d,.call f b,g⟩::l)::k) s:=W.HT hc hg hf ha (bl h)
def aR{a b:V}(h:V.wk a b:=by(repeat' (first|exact Go.Lamb.V.wk.rfl _|exact Go.Lamb.V.wk.ae _|exact Go.Lamb.V.wk.aC _ _|exact Go.Lamb.aem|exact Go.Lamb.aen|refine Go.Lamb.yb ?_ ?_|refine Go.Lamb.Sy ?_ ?_))):V.wk a b:=h
def dZ{a b:Env}(h:gG a b:=by(repeat' (first|exact Go.Lamb.gG.base _|(refine Go.Lamb.gG.put ?_ (by first|exact Go.Lamb.V.wk.rfl _|exact Go.Lamb.V.wk.aC _ _|exact Go.Lamb.V.wk.ae _))))):gG a b:=h
def W.fV{d:Option Nat}{f:ah}{b:List ah}{g:Option (Nat×Bool)}{l:List ai}{k:List It}{s:St}{e:FuncId}{caps:List V}{args c:List V}{v:V}{i:H}(hc:DC P w0 e c s.σ (Same v i))(h:Lamb.cp (W P w0 n0 Q) 5000 (.ops l::k) ⟨s.ρ.put d v,i⟩)
 (hg:bQ s.ρ g=some true:=by rfl) (hf:f.ev s.ρ= .fn e caps:=by rfl) (ha:b.map (·.ev s.ρ)++caps=args:=by rfl) (hw:V.wk (.agg args) (.agg c):=by exact Go.Lamb.aR):W P w0 n0 Q (.ops (⟨d,.call f b,g⟩::l)::k) s:=W.Ta hc hg hf ha hw (bl h)
def W.fg{r:List ak}{k:List It}{s:St}{b g:H}{vs:List V}{d:V}{R:V->H->Prop}(e:H.ok b)(h:aX s r=some vs)(hd:V.wk (aT vs) d)(i:R d b)(hn:b.length=n0:=by first|rfl|exact List.length_set ..|simp)
 (hl:V.low n0 d:=by first|exact .c _|(simp only[go_sem];done)) (hσ:s.σ=b++g:=by first|rfl|exact(List.append_nil _).symm):W P w0 n0 (Fin r n0 R) (.code .ret::k) s:=W.ret (Fin.gen e hn h hd hl hσ i)
def W.fs{r:List ak}{k:List It}{s:St}{b g:H}{vs:List V}{d:V}(e:H.ok b)(h:aX s r=some vs)(hd:V.wk (aT vs) d)(hn:b.length=n0:=by first|rfl|exact List.length_set ..|simp)
 (hl:V.low n0 d:=by first|exact .c _|(simp only[go_sem];done)) (hσ:s.σ=b++g:=by first|rfl|exact(List.append_nil _).symm):W P w0 n0 (Fin r n0 (Same d b)) (.code .ret::k) s:=W.ret (Fin.lK e hn h hd hl hσ)
def wN{c:ah}{x y:AC}{k:List It}{s:St}(h:Lamb.cp (W P w0 n0 Q) 5000 (.code y::k) s)(hc:c.ev s.ρ=.c (.bool false):=by rfl):W P w0 n0 Q (.code (.cond c x y)::k) s:=W.no hc (bl h)
def wY{c:ah}{x y:AC}{k:List It}{s:St}(h:Lamb.cp (W P w0 n0 Q) 5000 (.code x::k) s)(hc:c.ev s.ρ=.c (.bool true):=by rfl):W P w0 n0 Q (.code (.cond c x y)::k) s:=W.yes hc (bl h)
def wF{r:List ak}{k:List It}{s:St}{b g:H}{vs:List V}{d:V}(e:H.ok b)(h:aX s r=some vs:=by simp only[go_sem];rfl)(hd:V.wk (aT vs) d:=by simp only[Go.Lamb.aT];first|exact Go.Lamb.V.wk.rfl _|exact Go.Lamb.aR)(hn:b.length=n0:=by first|rfl|exact List.length_set ..|simp)
 (hl:V.low n0 d:=by first|exact .c _|(simp only[go_sem];done)) (hσ:s.σ=b++g:=by first|rfl|exact(List.append_nil _).symm):W P w0 n0 (Fin r n0 (Same d b)) (.code .ret::k) s:=W.ret (Fin.lK e hn h hd hl hσ)
def wQ{e ρ:Env}{σ L b:H}(hσ:H.ok σ)(h:gG e ρ:=by exact Go.Lamb.dZ)(hn:n0<=σ.length+b.length:=by simp)(g:b.length<=L.length:=by simp)(i:okB (σ.length+b.length) (L.take b.length):=by(try simp only[Go.Lamb.okB,Go.Lamb.cT,go_sem])<;>omega)
 (hw:cT (L.take b.length) b:=by simp only[List.length_cons,List.length_nil,Nat.reduceAdd,List.take_succ_cons,List.take_zero,Go.Lamb.cT,and_true];(repeat' (refine And.intro ?_ ?_))<;>(first|exact Go.Lamb.ad.wk.rfl _|exact Go.Lamb.ad.wk.gone _|(refine Go.Lamb.ad.lL ?_ rfl;exact Go.Lamb.aR)))
 (hl:cK (σ.length+b.length) e:=by repeat' (first|exact Go.Lamb.cK.base _|(refine Go.Lamb.cK.put ?_ (by first|exact .c _|((try simp only[Go.Lamb.okB,Go.Lamb.cT,go_sem])<;>omega))))):aV n0 ⟨e,σ++b⟩ ⟨ρ,σ++L⟩:=aV.lJ hσ h hn g i hw hl
def wD{b ρ:Env}{σ g:H}(e:H.ok σ)(h:gG b ρ:=by exact Go.Lamb.dZ)(hl:cK σ.length b:=by repeat' (first|exact Go.Lamb.cK.base _|(refine Go.Lamb.cK.put ?_ (by first|exact .c _|(simp only[go_sem];done)|exact Go.Lamb.V.Tb _ _)))):aV σ.length ⟨b,σ⟩ ⟨ρ,σ++g⟩:=aV.drop h (aA _) e hl
def wV{b ρ:Env}{σ:H}(h:gG b ρ:=by exact Go.Lamb.dZ):aV n0 ⟨b,σ⟩ ⟨ρ,σ⟩:=aV.env h
def wR{c:ah}{x y:AC}{k:List It}{s:St}{t:Bool}(hc:c.ev s.ρ=.c (.bool t))(b:t=true->Lamb.cp (W P w0 n0 Q) 5000 (.code x::k) s)(e:t=false->Lamb.cp (W P w0 n0 Q) 5000 (.code y::k) s):W P w0 n0 Q (.code (.cond c x y)::k) s:=W.test hc (fun h=>bl (b h)) fun h=>bl (e h)
def wS{c:ah}{x y:AC}{k:List It}{s:St}{t:Bool}(hc:c.ev s.ρ=.c (.bool (!t)))(b:t=true->Lamb.cp (W P w0 n0 Q) 5000 (.code y::k) s)(e:t=false->Lamb.cp (W P w0 n0 Q) 5000 (.code x::k) s):W P w0 n0 Q (.code (.cond c x y)::k) s:=W.sr hc (fun h=>bl (b h)) fun h=>bl (e h)
end
def Tc(b:Bool):(b==true)=b:=by cases b<;>rfl
def Td(b:Bool):(b==false)=!b:=by cases b<;>rfl
def I(n:Int):V:=.c (.int .i64 n)
def S(l:List UInt8):V:=.c (.str l)
def B(b:Bool):V:=.c (.bool b)
def eO.cs(o:eO):List C:=[.str o.name,.int .i64 o.prec,.int .i64 o.fix]
def eO.v(o:eO):V:=.agg [.c (.str o.name),.c (.int .i64 o.prec),.c (.int .i64 o.fix)]
def mP(l:List eO):C:=.sl (l.map eO.cs)
def Tok.cs(t:Tok):List C:=[.int .i64 t.kind,.str t.text,.int .i64 t.n,.int .i64 t.pos]
def Tok.v(t:Tok):V:=.agg [.c (.int .i64 t.kind),.c (.str t.text),.c (.int .i64 t.n),.c (.int .i64 t.pos)]
def yj(l:List Tok):C:=.sl (l.map Tok.cs)
mutual
def al.cs:al->List C
 | .mk k s n l a=>[.int .i64 k,.str s,.int .i64 n,.sl (al.rows l),.int .i64 a]
def al.rows:List al->List (List C)
 |[]=>[]
 |p::l=>p.cs::al.rows l
end
def al.Cl(l:List al):al.rows l=l.map al.cs:=by
 induction l with
 |nil=>rfl
 |cons p l b=>simp[al.rows,b]
def al.v(p:al):V:=.agg [.c (.int .i64 p.k),.c (.str p.name),.c (.int .i64 p.n),.c (.sl (p.l.map al.cs)),.c (.int .i64 p.pos)]
def al.aG(p:al):p.cs=[.int .i64 p.k,.str p.name,.int .i64 p.n,.sl (p.l.map al.cs),.int .i64 p.pos]:=by
 cases p;simp[al.cs,al.k,al.name,al.n,al.l,al.pos,al.Cl]
def lM{α:Type}(p:α->Bool)(l:List α)(i:Nat):Prop:=∀j (b:j<l.length),j<i->p l[j]=false
def kV{α:Type}(p:α->Bool)(l:List α):Int:=match l.findIdx? p with
 |some k=>k
 |none=>-1
def HX{α:Type}{p:α->Bool}{l:List α}{i:Nat}(h:lM p l i)(b:i<l.length)(hp:p l[i]=true):kV p l=i:=by
 unfold kV;rw[Bc.2 ⟨b,hp,fun j c=>by rw[h j (by omega) c];simp⟩]
def HY{α:Type}{p:α->Bool}{l:List α}(h:∀j (b:j<l.length),p l[j]=false):kV p l=-1:=by
 unfold kV;rw[Bd.2 fun x c=>by obtain⟨j,b,rfl⟩:=eH c;exact h j b]
def Te{α:Type}(p:α->Bool)(l:List α):(kV p l=-1/\l.find? p=none)\/∃i,∃(t:i<l.length),kV p l=(i:Int)/\l.find? p=some l[i]:=by
 unfold kV;cases h:l.findIdx? p with
 |none=>
  left;rw[Bd]at h;exact⟨rfl,List.find?_eq_none.2 fun x c=>by rw[h x c];simp⟩
 |some k=>
  right;obtain⟨b,e,g⟩:=Bc.1 h;refine⟨k,b,rfl,?_⟩;rw[QC];exact⟨e,k,b,rfl,fun j r=>by simpa using g j r⟩
def Tf{α:Type}{p:α->Bool}{l:List α}:kV p l=-1↔∀x∈l,p x=false:=by
 unfold kV;cases h:l.findIdx? p with
 |none=>simpa[Bd]using h
 |some k=>
  obtain⟨c,b,_⟩:=Bc.1 h;constructor
  ·intro e;simp only at e;omega
  ·intro e;rw[e _ (List.getElem_mem c)]at b;cases b
def eO.zero:eO:=⟨[],0,0⟩
def aeo(o:Option eO):V:=.au [(o.getD eO.zero).v,B o.isSome]
def HZ{α:Type}{p:α->Bool}{l:List α}{i:Nat}(h:lM p l i)(b:i<l.length)(hp:p l[i]=true):l.find? p=some l[i]:=by
 rw[QC];exact⟨hp,i,b,rfl,fun j c=>by rw[h j (by omega) c];rfl⟩
def H2{α:Type}{p:α->Bool}{l:List α}{i:Nat}(h:lM p l i)(e:l.length<=i):l.find? p=none:=by
 rw[List.find?_eq_none];intro x b;obtain⟨j,c,rfl⟩:=eH b;rw[h j c (by omega)];simp
def uS{α:Type}{p:α->Bool}{l:List α}{i:Nat}(h:lM p l i)(g:i<l.length)(hp:p l[i]=false):lM p l (i+1):=fun j e b=>by
 rcases Nat.lt_succ_iff_lt_or_eq.1 b with c|c
 ·exact h j e c
 ·subst c;exact hp
def uT{α:Type}{p:α->Bool}{l:List α}:lM p l 0:=fun j _ h=>absurd h (by omega)
def sA{α:Type}{f:α->List C}{l:List α}(h:V.Sz (.c (.sl (l.map f)))):l.length<=9223372036854775807:=by
 rw[HV,Sw]at h;simpa[maxLen]using h.1
def cF{i n:Nat}(h:i<n)(hn:n<=9223372036854775807):IntKind.i64.wrap ((i:Int)+1)=((i+1:Nat):Int):=by rw[a7]<;>omega
def bu(i:Nat):(0:Int)<=(i:Int):=by omega
def pj:((0:Nat):Int)=0:=rfl
def Cm:((1:Nat):Int)=1:=rfl
def yk:((2:Nat):Int)=2:=rfl
def qq(k:Int)(s:List UInt8)(n:Int)(l:List al)(a:Int):(al.mk k s n l a).k=k:=rfl
def qs(k:Int)(s:List UInt8)(n:Int)(l:List al)(a:Int):(al.mk k s n l a).name=s:=rfl
def qt(k:Int)(s:List UInt8)(n:Int)(l:List al)(a:Int):(al.mk k s n l a).n=n:=rfl
def qu(k:Int)(s:List UInt8)(n:Int)(l:List al)(a:Int):(al.mk k s n l a).l=l:=rfl
def pos_mk(k:Int)(s:List UInt8)(n:Int)(l:List al)(a:Int):(al.mk k s n l a).pos=a:=rfl
attribute [go_sem] SB SC SD SE SF SG SH SI SJ SK SL SM SN SO SP SQ SR SS SU SV SW bQ Lamb.step Se Sf uM Sd ji jh je V.af V.rows V.sub V.gE fx lC o8 nI mA jF ia ka uh xB Bt rZ lD V.isNil leaves V.leaf bB.quiet bB.pure List.getD_cons_zero List.getD_cons_succ List.getD_nil List.all_cons List.all_nil bG dU jW ey List.drop_succ_cons List.drop_zero List.cons_append List.nil_append cd List.append_assoc List.map_cons List.map_nil List.getElem?_cons_zero List.getElem?_cons_succ List.length_append bz cQ bx sk cR Su B8 yc B9 gF List.set_cons_zero List.set_cons_succ List.forall_mem_cons List.not_mem_nil false_implies implies_true Option.map_some Bool.and_true Bool.true_and Bool.not_not Bool.not_true Bool.not_false Bool.and_self Bool.or_true Bool.true_or Bool.or_false Bool.false_or Bool.and_false Bool.false_and Bool.false_eq_true beq_self_eq_true and_self and_true true_and if_true if_false Nat.zero_add Nat.add_zero aA Int.toNat_natCast decide_true decide_false Tc Td List.length_map List.getElem?_map I S B mP yj eO.v eO.cs eO.zero Tok.v Tok.cs al.v al.aG qq qs qt qu pos_mk al.app Tg pj Cm yk ai.o ai.m ai.f ai.l ai.d ai.n ai.x ai.s ai.k ai.y ai.z cE.q Si Sj Sk Sl Sm Sn So Sp B6 x9 aX SX SY S5 SZ S2 S3 S4 S6 S7 S8 S9 eq_self Nat.sub_zero iA Nat.reduceMul Nat.reduceSub Nat.reduceDiv Nat.reduceMod Nat.reducePow Nat.reduceLT Nat.reduceGT Nat.reduceBEq Nat.reduceBNe Nat.reduceEqDiff Nat.reduceBeqDiff Nat.reduceBneDiff Nat.reduceLeDiff Nat.reduceSubDiff Nat.reduceSucc Nat.isValue Int.reduceNeg Int.isPosValue Int.reduceAdd Int.reduceMul Int.reduceSub Int.reduceDiv Int.reduceMod Int.reduceTDiv Int.reduceTMod Int.reducePow Int.reduceLT Int.reduceLE Int.reduceGT Int.reduceGE Int.reduceEq Int.reduceNe Int.reduceBEq Int.reduceBNe Int.reduceToNat Int.reduceNegSucc Int.reduceOfNat Int.reduceNatCast Int.reduceNatCast' reduceCtorEq UInt8.reduceAdd UInt8.reduceSub UInt8.reduceLT UInt8.reduceLE UInt8.reduceGT UInt8.reduceGE UInt8.reduceOfNat UInt8.reduceToNat UInt32.reduceAdd UInt32.reduceSub UInt32.reduceLT UInt32.reduceLE UInt32.reduceGT UInt32.reduceGE UInt32.reduceOfNat UInt32.reduceToNat UInt64.reduceAdd UInt64.reduceSub UInt64.reduceLT UInt64.reduceLE UInt64.reduceGT UInt64.reduceGE UInt64.reduceOfNat UInt64.reduceToNat zK zT zF zS4 opdN rsq rif forL eopAt drg zI zC oK oF oV oN oA oB oI oP oD oJ oL oS oQ oU yI yF yL yV yM yJ yB yX yT yW
attribute [go_sem ↓] reduceIte reduceDIte

def pX(P:Program)(n:Nat):List Field->Nat->Bool
 |[],o=>o==n
 |f::l,o=>f.offset==o&&pX P n l (o+P.cellsOf f.type)
def oM(P:Program)(T:TypeId->Bool)(t:TypeId):Bool:=match P.underlying t with
 |some .bool|some (.int _)|some .string=>true
 |some (.slice e)=>T e&&decide (0<P.cellsOf e)
 |some (.struct fs)=>fs.toList.all (fun f=>T f.type)&&pX P (P.cellsOf t) fs.toList 0
 |_=>false
inductive dR (P:Program):TypeId->List C->Prop where
 |bool {t:TypeId} (ht:P.underlying t=some .bool) (b:Bool):dR P t [.bool b]
 |int {t:TypeId} {k:IntKind} (ht:P.underlying t=some (.int k)) (n:Int) (hw:(Lit.int k n).wf=true):dR P t [.int k n]
 |str {t:TypeId} (ht:P.underlying t=some .string) (l:List UInt8):dR P t [.str l]
 |sl {t e:TypeId} (ht:P.underlying t=some (.slice e)) (rows:List (List C)) (h:∀r∈rows,dR P e r):dR P t [.sl rows]
 |struct {t:TypeId} {fs:Array Field} (ht:P.underlying t=some (.struct fs)) (zs:List C) (hl:zs.length=P.cellsOf t) (h:∀f∈fs.toList,dR P f.type ((zs.drop f.offset).take (P.cellsOf f.type))):dR P t zs
theorem Gu{P:Program}{n:Nat}:∀{l:List Field} {o:Nat},pX P n l o=true->o<=n/\∀f∈l,o<=f.offset/\f.offset+P.cellsOf f.type<=n
 |[],o,h=>by simp only[pX,beq_iff_eq]at h;exact⟨by omega,fun f hf=>by cases hf⟩
 |f::l,o,h=>by
  simp only[pX,bM,beq_iff_eq]at h;obtain⟨c,b⟩:=Gu h.2;refine⟨by omega,fun g hg=>?_⟩;rcases cD.1 hg with rfl|hg
  ·omega
  ·have:=b g hg;omega
theorem pieces{P:Program}{m:Mem}{n:Nat}{cs:List Value}:∀(l:List Field) (o:Nat),pX P n l o=true->
  (∀f∈l,∃zs:List C,zs.length=P.cellsOf f.type/\dR P f.type zs/\∀j (c:j<zs.length),RC m zs[j] (cs.getD (f.offset+j) undef))->
  ∃zs:List C,zs.length=n-o/\(∀f∈l,dR P f.type ((zs.drop (f.offset-o)).take (P.cellsOf f.type)))/\∀j (c:j<zs.length),RC m zs[j] (cs.getD (o+j) undef)
 |[],o,b,_=>by
  simp only[pX,beq_iff_eq]at b;exact⟨[],by simp;omega,fun f hf=>(by cases hf),fun j c=>by simp at c⟩
 |f::l,o,b,h=>by
  have w:=b;simp only[pX,bM,beq_iff_eq]at b;obtain⟨r,b⟩:=b;obtain⟨p,u,A,D⟩:=h f (List.mem_cons_self ..);obtain⟨zs,E,F,z3⟩:=pieces l _ b (fun g hg=>h g (List.mem_cons_of_mem _ hg));obtain⟨J,G⟩:=Gu b;refine⟨p++zs,by rw[bC,E,u];omega,fun g hg=>?_,fun j c=>?_⟩
  ·rcases cD.1 hg with rfl|hg
   ·rw[r,Nat.sub_self,List.drop_zero,<-u,List.take_left];rw[r]at*;exact A
   ·have:=(G g hg).1;rw[List.drop_append,List.drop_of_length_le (by omega),List.nil_append];have e:g.offset-o-p.length=g.offset-(o+P.cellsOf f.type):=by omega
    rw[e];exact F g hg
  ·by_cases i:j<p.length
   ·rw[List.getElem_append_left i];have:=D j i;rwa [r]at this
   ·rw[List.getElem_append_right (by omega)];have t:j-p.length<zs.length:=by rw[bC]at c;omega
    have:=z3 (j-p.length) t;rwa [show o+P.cellsOf f.type+(j-p.length)=o+j by omega]at this
section
variable {H:Type} {enc:TypeId×Value->H} {P:Program} {w:World} {base:Nat} {spare:Nat->Bool} {held:Bool}
theorem Gv{T:TypeId->Bool}(hT:∀t,T t=true->oM P T t=true):∀(fuel:Nat) (t:TypeId) (cs:List Value) (x:DataW H×List MemPlace),T t=true->xy enc P w base spare held fuel t cs=some x->
  ∃zs:List C,zs.length=cs.length/\dR P t zs/\∀j (c:j<zs.length),RC (K.start w).m zs[j] (cs.getD j undef)
 |0,t,cs,x,_,h=>by simp[xy]at h
 |fuel+1,t,cs,x,ht,h=>by
  have hp:=hT t ht;unfold oM at hp;split at hp
  ·rename_i A;obtain⟨b,rfl,rfl⟩:=DataW.trod_bool A h;exact⟨[.bool b],rfl,.bool A b,fun j c=>by match j,c with|0,_=>exact .bool b⟩
  ·rename_i k A;obtain⟨n,rfl,rfl,hw⟩:=DataW.trod_int A h;exact⟨[.int k n],rfl,.int A n hw,fun j c=>by match j,c with|0,_=>exact .int k n⟩
  ·rename_i A;obtain⟨s,rfl,rfl,hs⟩:=DataW.trod_string A h;refine⟨[.str s.data.toList],rfl,.str A _,fun j c=>by
    match j,c with
    |0,_=>
     have:=RC.str (m:=(K.start w).m) s.data.toList (by simpa using hs);rw[<-adq]at this;exact this⟩
  ·rename_i e A;simp only[bM,decide_eq_true_eq]at hp;obtain⟨hTe,he⟩:=hp;cases E:xy enc P w base spare held (fuel+1) t cs with
   |none=>rw[E]at h;cases h
   |some x'=>
   rcases DataW.trod_slice A E with⟨rfl,_⟩|⟨a,len,cap,elems,rest,n,hn,rfl,_,hb,hl,hm,Q,hel,_,_⟩
   ·exact⟨[.sl []],rfl,.sl A [] (by simp),fun j c=>by match j,c with|0,_=>exact RC.nil _⟩
   ·injection hn with hn;subst hn;have U:∀i,i<len->∃(zs:List C) (cs':List Value),zs.length=P.cellsOf e/\dR P e zs/\w.cells? base (a.add (i*P.cellsOf e)) (P.cellsOf e)=some cs'/\∀j (c:j<zs.length),RC (K.start w).m zs[j] (cs'.getD j undef):=fun i g=>by
     have u:=hel i g;rw[aN (by omega)]at u;obtain⟨cs',F,h3⟩:=Option.bind_eq_some_iff.1 u;obtain⟨zs,N,X,z3⟩:=Gv hT fuel e cs' _ hTe h3;exact⟨zs,cs',by rw[N];exact(Bo F).2.1,X,F,z3⟩
    obtain⟨R,L⟩:=Go.Deep.choose_lt (α:=List C×List Value) (p:=fun i r=>r.1.length=P.cellsOf e/\dR P e r.1/\w.cells? base (a.add (i*P.cellsOf e)) (P.cellsOf e)=some r.2/\∀j (c:j<r.1.length),RC (K.start w).m r.1[j] (r.2.getD j undef)) (fun i g=>let ⟨zs,cs',h⟩:=U i g;⟨(zs,cs'),h⟩);obtain⟨b,o,sp⟩:=a;have Y:0<len->sp=none:=fun h0=>by
     have u:=(Bo (L 0 h0).2.2.1).2;have F:=u.2 0 he;rw[aN (by rw[u.1];exact he)]at F;simp only[Nat.zero_mul,Addr.add,if_true]at F;unfold World.cell? at F;split at F
     ·cases sp with
      |none=>rfl
      |some q=>simp at F
     ·cases F
    have G:∀i,i<len->∀j,j<P.cellsOf e->w.cell? ⟨b,o+(i*P.cellsOf e+j),none⟩=(R i).2[j]?:=fun i g j c=>by
     have u:=(Bo (L i g).2.2.1).2.2 j c;have hs0:=Y (by omega);subst hs0;rw[<-u];congr 1;simp only[Addr.add]
     repeat' split
     all_goals simp_all
     all_goals omega
    refine⟨[.sl ((ga len).map fun i=>(R i).1)],rfl,.sl A _ (fun r hr=>by
     obtain⟨i,g,rfl⟩:=eU.1 hr;exact(L i (nE.1 g)).2.1),fun j c=>by
     match j,c with
     |0,_=>
      show RC _ (C.sl _) (Value.slice _ _ _);have Z:((ga len).map fun i=>(R i).1).length=len:=by simp
      have key:=RC.sl (m:=(K.start w).m) ((ga len).map fun i=>(R i).1) (P.cellsOf e) (some ⟨b,o,sp⟩) cap ((ga (len*P.cellsOf e)).map fun k=>(w.cell? ⟨b,o+k,none⟩).getD undef)
       (fun r hr=>by
         obtain⟨i,g,rfl⟩:=eU.1 hr;exact(L i (nE.1 g)).1)
       (by rw[Z];exact hl) hm (by simp)
       (fun hne=>?_) (fun i g j c=>?_)
      ·rw[Z]at key;exact key
      ·have h0:0<len:=by
        rcases Nat.eq_zero_or_pos len with h0|h0
        ·subst h0;exact absurd rfl hne
        ·exact h0
       refine⟨b,o,by rw[Y h0],fun k hk=>?_⟩;have hk':k<len*P.cellsOf e:=by simpa using hk
       rw[List.getElem?_map,List.getElem?_range hk'];have g:k/P.cellsOf e<len:=Nat.div_lt_of_lt_mul (by rw[Nat.mul_comm];exact hk');have c:=Nat.mod_lt k he;have u:=G _ g _ c;rw[Nat.mul_comm,Nat.div_add_mod]at u;rw[aN (by rw[(Bo (L _ g).2.2.1).2.1];exact c)]at u;show w.cell? ⟨b,o+k,none⟩=some ((w.cell? ⟨b,o+k,none⟩).getD undef);rw[u];rfl
      ·have D:i<len:=by simpa using g
       have hge:((ga len).map fun i=>(R i).1)[i]=(R i).1:=by simp
       simp only[hge]at c⊢;have hj':j<P.cellsOf e:=by rw[(L i D).1]at c;exact c
       have u:=(L i D).2.2.2 j c;have F:=G i D j hj';have J:i*P.cellsOf e+j<len*P.cellsOf e:=by
        have:(i+1)*P.cellsOf e<=len*P.cellsOf e:=Nat.mul_le_mul_right _ D;rw[Nat.succ_mul]at this;omega
       have hcl:=(Bo (L i D).2.2.1).2.1;have e1:((ga (len*P.cellsOf e)).map fun k=>(w.cell? ⟨b,o+k,none⟩).getD undef).getD (i*P.cellsOf e+j) undef=(R i).2.getD j undef:=by
        rw[cx,List.getElem?_map,List.getElem?_range J];simp only[Option.map_some,Option.getD_some];rw[F,cx]
       rw[e1];exact u⟩
  ·rename_i fs A;simp only[bM,List.all_eq_true]at hp;obtain⟨hTf,M⟩:=hp;cases E:xy enc P w base spare held (fuel+1) t cs with
   |none=>rw[E]at h;cases h
   |some x'=>
   obtain⟨xs,n,hn,_,hl,Q,hf⟩:=DataW.trod_struct A E;injection hn with hn;subst hn;obtain⟨zs,N,X,z3⟩:=pieces (m:=(K.start w).m) (cs:=cs) fs.toList 0 M (fun f O=>by
    obtain⟨i,g,rfl⟩:=List.getElem_of_mem O;have D:i<fs.size:=by simpa using g
    have u:=hf i fs[i] (by simp[D]);rw[aN (by omega)]at u;obtain⟨zs,N,X,z3⟩:=Gv hT fuel _ _ _ (hTf _ O) u;have hin:=(Gu M).2 _ O;simp only[Array.getElem_toList]at hin⊢;have J:((cs.drop fs[i].offset).take (P.cellsOf fs[i].type)).length=P.cellsOf fs[i].type:=by
     rw[List.length_take,List.length_drop];omega
    refine⟨zs,by rw[N,J],X,fun j c=>?_⟩;have:=z3 j c;have hjl:j<P.cellsOf fs[i].type:=by rw[N,J]at c;exact c
    rw[cx,List.getElem?_take,if_pos hjl,List.getElem?_drop]at this;rwa [cx])
   refine⟨zs,by rw[N,hl,Nat.sub_zero],.struct A zs (by rw[N,Nat.sub_zero]) (fun f hf=>by simpa using X f hf),fun j c=>?_⟩;have:=z3 j c;rwa [Nat.zero_add]at this
  ·cases hp
theorem Gt{T:TypeId->Bool}(i:∀t,T t=true->oM P T t=true){t:TypeId}{xs:Array Value}{d:DataW H}{p:List MemPlace}(ht:T t=true)(h:DataW.Trod enc P w base spare held t (.agg xs) d p):∃zs:List C,dR P t zs/\RV (K.start w) (.agg (zs.map .c)) (.agg xs):=by
 obtain⟨b,h⟩:=h;obtain⟨zs,g,r,z3⟩:=Gv i b t _ _ ht h;have e:(Value.agg xs).cells.toList=xs.toList:=rfl;rw[e]at g z3;refine⟨zs,r,?_⟩;have:=RV.agg (κ:=K.start w) (vs:=zs.map .c) (xs:=xs.toList) (by simp[g]) (fun j u=>by
  rw[List.getElem_map];exact .c (z3 j (by simpa using u)))
 simpa using this

end
def iJ{α β:Type}(f:α->β->Bool):List α->List β->Bool
 |[],[]=>true
 |x::l,y::r=>f x y&&iJ f l r
 |_,_=>false
def H3{α β:Type}{f:α->β->Bool}:∀{l:List α} {r:List β},l.length≠r.length->iJ f l r=false
 |[],[],h=>absurd rfl h
 |x::l,y::r,h=>by
  rw[iJ,H3 (l:=l) (r:=r) (fun e=>h (by simp[e])),rU]
 |[],_::_,_=>rfl
 |_::_,[],_=>rfl
def H4{α β:Type}{f:α->β->Bool}:∀{l:List α} {r:List β} {j:Nat} (c:j<l.length) (b:j<r.length),f l[j] r[j]=false->iJ f l r=false
 |x::l,y::r,0,_,_,h=>by rw[iJ];simp only[di]at h;rw[h];rfl
 |x::l,y::r,j+1,c,b,h=>by
  rw[iJ,H4 (j:=j) (by simpa using c) (by simpa using b) (by simpa using h),rU]
 |[],_,_,c,_,_=>by simp at c
 |_::_,[],_,_,b,_=>by simp at b
def Cn{α β:Type}{f:α->β->Bool}:∀{l:List α} {r:List β},l.length=r.length->(∀j (c:j<l.length) (b:j<r.length),f l[j] r[j]=true)->iJ f l r=true
 |[],[],_,_=>rfl
 |x::l,y::r,hl,h=>by
  rw[iJ,Cn (by simpa using hl) (fun j c b=>h (j+1) (Bb c) (Bb b))];have:=h 0 (by simp) (by simp);simp only[di]at this;rw[this];rfl
 |[],_::_,hl,_=>by simp at hl
 |_::_,[],hl,_=>by simp at hl
def al.ind{P:al->Prop}(h:∀p,(∀q∈p.l,P q)->P p):∀p,P p
 | .mk k s n l a=>h _ fun q b=>al.ind h q
termination_by p=>SizeOf.sizeOf p
decreasing_by
 have:=aee b;simp only[al.l]at this;simp only[al.mk.sizeOf_spec];omega
mutual
def gJ:al->Int->Int
 | .mk _ _ _ l _,n=>gq l (n-1)
def gq:List al->Int->Int
 |[],n=>n
 |p::l,n=>if 0<=n then gq l (gJ p n)else n
end
def Th(p:al)(n:Int):gJ p n=gq p.l (n-1):=by cases p;simp[gJ,al.l]
def H5{l:List al}{n:Int}(h:¬0<=n):gq l n=n:=by
 cases l with
 |nil=>rfl
 |cons p l=>rw[gq,if_neg h]
mutual
def H6:∀(p:al) (n:Int),0<=n->-1<=gJ p n/\gJ p n<=n-1
 | .mk _ _ _ l _,n,h=>by rw[gJ];exact H7 l (n-1) (by omega)
def H7:∀(l:List al) (n:Int),-1<=n->-1<=gq l n/\gq l n<=n
 |[],n,h=>by rw[gq];omega
 |p::l,n,h=>by
  rw[gq];split
  ·rename_i h0;have h1:=H6 p n h0;have h2:=H7 l (gJ p n) h1.1;omega
  ·omega
end
def Ti{l:List al}{i:Nat}{n:Int}(b:i<l.length)(hn:0<=n):gq (l.drop i) n=gq (l.drop (i+1)) (gJ l[i] n):=by
 rw[gg b,gq,if_pos hn]
def Tj{l:List al}{i:Nat}{n:Int}(b:l.length<=i):gq (l.drop i) n=n:=by
 rw[xg b,gq]
inductive aa where
 |mk (k:Int) (name:List UInt8) (n:Int) (l:List aa)
 deriving Inhabited
def aa.k:aa->Int| .mk k _ _ _=>k
def aa.name:aa->List UInt8| .mk _ s _ _=>s
def aa.n:aa->Int| .mk _ _ n _=>n
def aa.l:aa->List aa| .mk _ _ _ l=>l
def aO(k:Int)(s:List UInt8)(n:Int)(l:List aa):(aa.mk k s n l).k=k:=rfl
def aQ(k:Int)(s:List UInt8)(n:Int)(l:List aa):(aa.mk k s n l).name=s:=rfl
def aL(k:Int)(s:List UInt8)(n:Int)(l:List aa):(aa.mk k s n l).n=n:=rfl
def aH(k:Int)(s:List UInt8)(n:Int)(l:List aa):(aa.mk k s n l).l=l:=rfl
mutual
def aa.cs:aa->List C
 | .mk k s n l=>[.int .i64 k,.str s,.int .i64 n,.sl (aa.rows l)]
def aa.rows:List aa->List (List C)
 |[]=>[]
 |p::l=>p.cs::aa.rows l
end
def aa.Cl(l:List aa):aa.rows l=l.map aa.cs:=by
 induction l with
 |nil=>rfl
 |cons p l b=>simp[aa.rows,b]
def aa.v(p:aa):V:=.agg [.c (.int .i64 p.k),.c (.str p.name),.c (.int .i64 p.n),.c (.sl (p.l.map aa.cs))]
def aa.aG(p:aa):p.cs=[.int .i64 p.k,.str p.name,.int .i64 p.n,.sl (p.l.map aa.cs)]:=by
 cases p;simp[aa.cs,aa.k,aa.name,aa.n,aa.l,aa.Cl]
def aM(l:List aa):C:=.sl (l.map aa.cs)
def aa.none:aa:=.mk 0 [] 0 []
def aa.var(n:Int):aa:=.mk 1 [] n []
def aa.arr(a b:aa):aa:=.mk 2 [] 0 [a,b]
def aa.ind{P:aa->Prop}(h:∀p,(∀q∈p.l,P q)->P p):∀p,P p
 | .mk k s n l=>h _ fun q b=>aa.ind h q
termination_by p=>SizeOf.sizeOf p
decreasing_by
 have:=aee b;simp only[aa.l]at this;simp only[aa.mk.sizeOf_spec];omega
mutual
def kW:aa->aa->Bool
 | .mk k s n l,.mk b s' c e=>k==b&&s==s'&&n==c&&qv l e
def qv:List aa->List aa->Bool
 |[],[]=>true
 |x::l,y::r=>kW x y&&qv l r
 |_,_=>false
end
def H8:∀(l r:List aa),qv l r=iJ kW l r
 |[],[]=>by simp[qv,iJ]
 |x::l,y::r=>by rw[qv,iJ,H8 l r]
 |[],_::_=>by simp[qv,iJ]
 |_::_,[]=>by simp[qv,iJ]
def Co(p q:aa):kW p q=(p.k==q.k&&p.name==q.name&&p.n==q.n&&iJ kW p.l q.l):=by
 cases p;cases q;simp only[kW,H8,aa.k,aa.name,aa.n,aa.l]
def Tk:∀(p:aa),kW p p=true:=aa.ind fun p b=>by
 rw[Co];simp only[beq_self_eq_true,Bool.true_and];exact Cn rfl fun j c _=>b _ (bg c)
mutual
def dO:aa->Int->Int
 | .mk _ _ _ l,n=>gu l (n-1)
def gu:List aa->Int->Int
 |[],n=>n
 |p::l,n=>if 0<=n then gu l (dO p n)else n
end
def Tl(p:aa)(n:Int):dO p n=gu p.l (n-1):=by cases p;simp[dO,aa.l]
def H9{l:List aa}{n:Int}(h:¬0<=n):gu l n=n:=by
 cases l with
 |nil=>rfl
 |cons p l=>rw[gu,if_neg h]
mutual
def Ia:∀(p:aa) (n:Int),0<=n->-1<=dO p n/\dO p n<=n-1
 | .mk _ _ _ l,n,h=>by rw[dO];exact Ib l (n-1) (by omega)
def Ib:∀(l:List aa) (n:Int),-1<=n->-1<=gu l n/\gu l n<=n
 |[],n,h=>by rw[gu];omega
 |p::l,n,h=>by
  rw[gu];split
  ·rename_i h0;have h1:=Ia p n h0;have h2:=Ib l (dO p n) h1.1;omega
  ·omega
end
def Tm{l:List aa}{i:Nat}{n:Int}(b:i<l.length)(hn:0<=n):gu (l.drop i) n=gu (l.drop (i+1)) (dO l[i] n):=by
 rw[gg b,gu,if_pos hn]
def Tn{l:List aa}{i:Nat}{n:Int}(b:l.length<=i):gu (l.drop i) n=n:=by
 rw[xg b,gu]
abbrev cb:=List UInt8
def cX(p:aa):Bool:=p.k==2&&p.l.length==2
mutual
def bZ:aa->Bool
 | .mk k s n l=>(if k=0 then ie s&&n==0 else if k=1 then s==[]&&decide (0<=n)&&decide (n<=4611686018427387904)&&l.length==0 else if k=2 then s==[]&&n==0&&l.length==2 else false)&&uU l
def uU:List aa->Bool
 |[]=>true
 |x::l=>bZ x&&uU l
end
def iK(p:aa):Bool:=if p.k=0 then ie p.name&&p.n==0 else if p.k=1 then p.name==[]&&decide (0<=p.n)&&decide (p.n<=4611686018427387904)&&p.l.length==0 else if p.k=2 then p.name==[]&&p.n==0&&p.l.length==2 else false
def Ic:∀(l:List aa),uU l=l.all bZ
 |[]=>by simp[uU]
 |x::l=>by rw[uU,List.all_cons,Ic l]
def iL(p:aa):bZ p=(iK p&&p.l.all bZ):=by
 cases p;rw[bZ,Ic];rfl
def du(l:List aa)(u:aa):aa:=l.foldr aa.arr u
def Cp{p:aa}(h:cX p=true):∃a b,p.l=[a,b]:=by
 simp only[cX,bM,beq_iff_eq]at h
 match hp:p.l with
 |[a,b]=>exact⟨a,b,rfl⟩
 |[]=>rw[hp]at h;simp at h
 |[_]=>rw[hp]at h;simp at h
 |_::_::_::_=>rw[hp]at h;simp at h
def pn:Nat->aa->List aa×aa
 |0,p=>([],p)
 |f+1,p=>if cX p=true then match p.l with
  |[a,b]=>(a::(pn f b).1,(pn f b).2)
  |_=>([],p)
  else([],p)
mutual
def cY:aa->Nat
 | .mk _ _ _ l=>mQ l+1
def mQ:List aa->Nat
 |[]=>0
 |x::l=>max (cY x) (mQ l)
end
def Ie{x:aa}:∀{l:List aa},x∈l->cY x<=mQ l
 |[],h=>by simp at h
 |y::l,h=>by
  rw[mQ];rcases cD.1 h with rfl|h
  ·exact Nat.le_max_left _ _
  ·exact bf (Ie h) (Nat.le_max_right _ _)
def yl{p x:aa}(h:x∈p.l):cY x<cY p:=by
 cases p with
 |mk k s n l=>rw[cY];have:=Ie h;simp only[aa.l]at this;omega
def eC(p:aa):List aa×aa:=pn (cY p) p
def Cq:∀(f:Nat) (p:aa),cY p<=f->pn f p=eC p
 |f,p,h=>by
  unfold eC;generalize hg:cY p=g at h;induction g using p6 generalizing f p with
  |ind g e=>
   cases g with
   |zero=>cases p;rw[cY]at hg;omega
   |succ g=>
    cases f with
    |zero=>omega
    |succ f=>
     rw[pn,pn];by_cases c:cX p=true
     ·rw[if_pos c,if_pos c];obtain⟨a,b,hl⟩:=Cp c;have i:cY b<cY p:=yl (by rw[hl];simp);simp only[hl];rw[e (cY b) (by omega) f b rfl (by omega),e (cY b) (by omega) g b rfl (by omega)]
     ·rw[if_neg c,if_neg c]
def Cr{p a b:aa}(h:cX p=true)(hl:p.l=[a,b]):eC p=(a::(eC b).1,(eC b).2):=by
 have c:cY b<cY p:=yl (by rw[hl];simp);rw[<-Cq (cY p+1) p (by omega),pn,if_pos h];simp only[hl];rw[Cq _ b (by omega)]
def yo{p:aa}(h:cX p=false):eC p=([],p):=by
 rw[<-Cq (cY p+1) p (by omega),pn,if_neg (by rw[h];decide)]
def To(a b:aa):cX (.arr a b)=true:=rfl
def If(s:cb)(b:Bool):cb:=if b then 40::(s++[41])else s
def Tp(n:Int):cb:=(UInt8.ofNat (65+n%26).toNat)::(if 0<n/26 then Lib.itoa (n/26)else[])
def Tq(p:aa):Bool:=p.k !=1&&decide (0<p.l.length)
mutual
def Cs:aa->cb
 | .mk k s n l=>if k=1 then(if n<0 then[63]else Tp n)else if k=2/\l.length=2 then Tr l else Lib.join (s::Ig l) [32]
def Ig:List aa->List cb
 |[]=>[]
 |x::l=>If (Cs x) (Tq x)::Ig l
def Tr:List aa->cb
 |[]=>[]
 |x::l=>If (Cs x) (cX x)++Ts l
def Ts:List aa->cb
 |[]=>[]
 |x::_=>[32,45,62,32]++Cs x
end
mutual
def iM:aa->Nat
 | .mk k _ _ l=>if k=1 then 1 else 1+jI l
def jI:List aa->Nat
 |[]=>0
 |x::l=>iM x+jI l
end
def Ct(p:aa):iM p=if p.k=1 then 1 else 1+jI p.l:=by cases p;rw[iM];rfl
def jJ(n v:Int):Int:=if aE.wrap ((if-1>v then-1 else v)+1)>n then aE.wrap ((if-1>v then-1 else v)+1)else n
mutual
def bS:Int->aa->Int
 |m,.mk k _ n l=>if k=1 then jJ m n else cc m l
def cc:Int->List aa->Int
 |m,[]=>m
 |m,x::l=>cc (bS m x) l
end
def yp(m:Int)(p:aa):bS m p=if p.k=1 then jJ m p.n else cc m p.l:=by cases p;rw[bS];rfl
def yq:∀(l r:List aa) (m:Int),cc m (l++r)=cc (cc m l) r
 |[],r,m=>by rw[cc];rfl
 |x::l,r,m=>by rw[iB,cc,cc,yq l r]
mutual
def lN:aa->aa
 | .mk k s n l=>if k=1 then .none else .mk (if k=2/\l.length=2 then 2 else 0) (if k=2/\l.length=2 then[]else s) 0 (uV l)
def uV:List aa->List aa
 |[]=>[]
 |x::l=>lN x::uV l
end
def Ih:∀l:List aa,uV l=l.map lN
 |[]=>by simp[uV]
 |x::l=>by rw[uV,Ih l,List.map_cons]
def Tt(p:aa):lN p=if p.k=1 then .none else .mk (if cX p=true then 2 else 0) (if cX p=true then[]else p.name) 0 (p.l.map lN):=by
 cases p;rw[lN,Ih];simp only[aa.k,aa.l,aa.name,cX,bM,beq_iff_eq]
def ig(n:Int):Prop:=-9223372036854775808<=n/\n<=9223372036854775807
inductive mR:aa->Prop where
 |mk {k:Int} {s:cb} {n:Int} {l:List aa} (hk:ig k) (hn:ig n) (h:∀x∈l,mR x):mR (.mk k s n l)
instance(n:Int):Decidable (ig n):=inferInstanceAs (Decidable (_/\_))
mutual
def aw:aa->Nat
 | .mk _ _ _ l=>1+bE l
def bE:List aa->Nat
 |[]=>0
 |x::l=>aw x+bE l
end
def ct(p:aa):aw p=1+bE p.l:=by cases p;rw[aw];rfl
def Ii(p:aa):1<=aw p:=by rw[ct];omega
def jm{x:aa}:∀{l:List aa},x∈l->aw x<=bE l
 |[],h=>by simp at h
 |y::l,h=>by
  rw[bE];rcases cD.1 h with rfl|h
  ·omega
  ·have:=jm h;omega
def yr{p x:aa}(h:x∈p.l):aw x<aw p:=by rw[ct p];have:=jm h;omega
def yt:∀l:List aa,l.length<=bE l
 |[]=>by simp
 |x::l=>by rw[bE,bG];have:=yt l;have:=Ii x;omega
mutual
def yu:∀p:aa,cY p<=aw p
 | .mk _ _ _ l=>by rw[cY,aw];have:=Ij l;omega
def Ij:∀l:List aa,mQ l<=bE l
 |[]=>by simp[mQ]
 |x::l=>by rw[mQ,bE];have:=yu x;have:=Ij l;omega
end
mutual
def Cu:∀p:aa,iM p<=aw p
 | .mk k _ _ l=>by rw[iM,aw];have:=Ik l;split<;>omega
def Ik:∀l:List aa,jI l<=bE l
 |[]=>by simp[jI]
 |x::l=>by rw[jI,bE];have:=Cu x;have:=Ik l;omega
end
def cq(s:List aa)(n:Int):aa:=s.getD n.toNat .none
def aJ(n:Int):aa:=.mk 1 [] n []
def bJ(s:List aa)(t:aa):Bool:=t.k==1&&!((cq s t.n).k==1&&(cq s t.n).n==t.n)
mutual
def dc(v:Int):aa->Bool
 | .mk k _ n l=>if k=1 then n==v else sB v l
def sB(v:Int):List aa->Bool
 |[]=>false
 |x::l=>dc v x||sB v l
end
def Il(v:Int)(t:aa):dc v t=if t.k=1 then t.n==v else sB v t.l:=by cases t;rw[dc];rfl
def Im(v:Int):∀(l:List aa),sB v l=true↔∃u∈l,dc v u=true
 |[]=>by rw[sB];simp
 |x::l=>by
  rw[sB,Bool.or_eq_true,Im v l];simp
def mS{v:Int}{t:aa}(h:t.k=1):dc v t=true↔t.n=v:=by rw[Il,if_pos h,beq_iff_eq]
def lO{v:Int}{t:aa}(h:t.k≠1):dc v t=true↔∃u∈t.l,dc v u=true:=by rw[Il,if_neg h,Im]
structure ay (n:Nat) (t:aa):Prop where
 valid:bZ t=true
 vars:∀v,dc v t=true->0<=v/\v<n
def ay.dA{n:Nat}{t u:aa}(h:ay n t)(hk:t.k≠1)(b:u∈t.l):ay n u:=by
 refine⟨?_,fun v c=>h.vars v ((lO hk).2 ⟨u,b,c⟩)⟩;have:=h.valid;rw[iL,bM]at this;exact List.all_eq_true.1 this.2 u b
def ay.var{n:Nat}{t:aa}(h:ay n t)(hk:t.k=1):0<=t.n/\t.n<n/\t.name=[]/\t.l=[]:=by
 have h1:=h.vars t.n ((mS hk).2 rfl);have h2:=h.valid;rw[iL,bM]at h2;have h2:=h2.1;unfold iK at h2;simp[hk]at h2;exact⟨h1.1,h1.2,h2.1.1.1,h2.2⟩
def ay.mono{n m:Nat}{t:aa}(h:ay n t)(hn:n<=m):ay m t:=⟨h.valid,fun v b=>by have:=h.vars v b;omega⟩
structure sC (s:List aa):Prop where
 holds:∀t∈s,ay s.length t
 Cv:∃rk:Int->Nat,∀i:Nat,i<s.length->bJ s (aJ i)=true->∀v,dc v (cq s i)=true->rk v<rk i
def iN{s:List aa}{n:Int}(h0:0<=n)(h:n<s.length):cq s n∈s:=by
 unfold cq;rw[cx,aN (by omega),Option.getD_some];exact bg _
def fk{s:List aa}{t:aa}(h:bJ s t=true):t.k=1:=by
 unfold bJ at h;rw[bM,beq_iff_eq]at h;exact h.1
def lP{s:List aa}{t:aa}(h:t.k=1):bJ s t=bJ s (aJ t.n):=by
 unfold bJ aJ;rw[h];rfl
structure uW (s:List aa) (rk:Int->Nat):Prop where
 less:∀t,ay s.length t->bJ s t=true->ay s.length (cq s t.n)/\∀v,dc v (cq s t.n)=true->rk v<rk t.n
def sC.less{s:List aa}(h:sC s):∃rk,uW s rk:=by
 obtain⟨rk,c⟩:=h.Cv;refine⟨rk,⟨fun t g b=>?_⟩⟩;have hk:=fk b;obtain⟨h0,h1,_⟩:=g.var hk;refine⟨h.holds _ (iN h0 h1),fun v i=>?_⟩;have e:((t.n.toNat:Nat):Int)=t.n:=by omega
 have:=c t.n.toNat (by omega) (by rw[e,<-lP hk];exact b) v (by rw[e];exact i);rwa [e]at this
inductive eP (s:List aa):aa->aa->Nat->Prop where
 |stop {t:aa} (h:bJ s t=false):eP s t t 0
 |go {t u:aa} {n:Nat} (h:bJ s t=true) (r:eP s (cq s t.n) u n):eP s t u (n+1)
def yv{s:List aa}{rk:Int->Nat}(i:uW s rk):∀(m:Nat) (t:aa),ay s.length t->(∀v,dc v t=true->rk v<m)->∃u n,eP s t u n/\n<=m/\ay s.length u/\bJ s u=false/\(t.k≠1->u=t)
 |m,t,j,p=>by
  cases h:bJ s t
  ·exact⟨t,0,.stop h,be _,j,h,fun _=>rfl⟩
  ·obtain⟨h1,h2⟩:=i.less t j h;have hk:=fk h;have w:=p t.n ((mS hk).2 rfl);cases m with
   |zero=>omega
   |succ m=>
    obtain⟨u,n,r,hn,a,b,c⟩:=yv i m (cq s t.n) h1 (fun v g=>by have:=h2 v g;omega);exact⟨u,n+1,.go h r,by omega,a,b,fun e=>absurd hk e⟩
def dP(st:List Int)(n:Int):Int:=st.getD n.toNat 0
mutual
inductive nP (s:List aa):List Int->aa->List Int->Prop where
 |gK {st st':List Int} {t:aa} (h:t.k≠1) (r:qw s st t.l st'):nP s st t st'
 |stop {st:List Int} {t:aa} (h:t.k=1) (h1:dP st t.n≠1) (h2:dP st t.n=2\/bJ s t=false):nP s st t st
 |go {st st':List Int} {t:aa} (h:bJ s t=true) (h1:dP st t.n≠1) (h2:dP st t.n≠2) (r:nP s (st.set t.n.toNat 1) (cq s t.n) st'):nP s st t (st'.set t.n.toNat 2)
inductive qw (s:List aa):List Int->List aa->List Int->Prop where
 |nil {st:List Int}:qw s st [] st
 |cons {st st1 st2:List Int} {t:aa} {l:List aa} (r:nP s st t st1) (rs:qw s st1 l st2):qw s st (t::l) st2
end
def Io{st:List Int}{n m:Int}{x:Int}(h0:0<=n)(h:n<st.length)(b:0<=m):dP (st.set n.toNat x) m=if m=n then x else dP st m:=by
 unfold dP;rw[cx,cx,List.getElem?_set];by_cases e:m=n
 ·subst e;rw[if_pos rfl,if_pos (by omega),if_pos rfl];rfl
 ·rw[if_neg (by omega),if_neg e]
def sD(rk:Int->Nat)(st:List Int)(P:Int->Prop):Prop:=∀u:Int,0<=u->u<st.length->dP st u=1->∀v,P v->rk v<rk u
def po(st st':List Int):Prop:=st'.length=st.length/\∀u:Int,0<=u->u<st.length->(dP st' u=1↔dP st u=1)
def po.trans{a b c:List Int}(h:po a b)(k:po b c):po a c:=⟨k.1.trans h.1,fun u h0 h1=>(k.2 u h0 (by rw[h.1];exact h1)).trans (h.2 u h0 h1)⟩
def sD.post{rk:Int->Nat}{st st':List Int}{P Q:Int->Prop}(h:sD rk st P)(k:po st st')(b:∀v,Q v->P v):sD rk st' Q:=fun u h0 h1 c v e=>h u h0 (by rw[<-k.1];exact h1) ((k.2 u h0 (by rw[<-k.1];exact h1)).1 c) v (b v e)
def Tu{s:List aa}{rk:Int->Nat}(R:uW s rk)(m:Nat):∀(t:aa) (st:List Int),st.length=s.length->ay s.length t->(∀v,dc v t=true->rk v<m)->sD rk st (fun v=>dc v t=true)->∃st',nP s st t st'/\po st st':=by
 induction m using p6 with
 |ind m E=>
  intro t;refine aa.ind (P:=fun t=>∀(st:List Int),st.length=s.length->ay s.length t->(∀v,dc v t=true->rk v<m)->sD rk st (fun v=>dc v t=true)->∃st',nP s st t st'/\po st st') (fun t T st c F N hp=>?_) t;by_cases hk:t.k=1
  ·have g:=(mS (v:=t.n) hk).2 rfl;obtain⟨h0,U,_⟩:=F.var hk;have h1:dP st t.n≠1:=fun e=>by have:=hp t.n h0 (by omega) e t.n g;omega
   by_cases h2:dP st t.n=2
   ·exact⟨st,.stop hk h1 (.inl h2),rfl,fun _ _ _=>Iff.rfl⟩
   cases A:bJ s t
   ·exact⟨st,.stop hk h1 (.inr A),rfl,fun _ _ _=>Iff.rfl⟩
   obtain⟨g1,O⟩:=R.less t F A;have cR:∀u:Int,0<=u->dP (st.set t.n.toNat 1) u=if u=t.n then 1 else dP st u:=fun u w=>Io h0 (by omega) w
   obtain⟨st',r,Q,X⟩:=E (rk t.n) (N t.n g) (cq s t.n) (st.set t.n.toNat 1) (by rw[bz];exact c) g1 O (fun u b i w v j=>by
    rw[cR u b]at w;have G:=O v j;split at w
    ·rename_i e;subst e;exact G
    ·have:=hp u b (by rw[bz]at i;exact i) w t.n g;omega)
   rw[bz]at Q;refine⟨_,.go A h1 h2 r,by rw[bz];exact Q,fun u b i=>?_⟩;rw[Io h0 (by omega) b];have J:=X u b (by rw[bz];exact i);rw[cR u b]at J;by_cases e:u=t.n
   ·subst e;rw[if_pos rfl];exact⟨fun h=>absurd h (by decide),fun h=>absurd h h1⟩
   ·rw[if_neg e]at J⊢;exact J
  ·have key:∀(l:List aa) (st:List Int),(∀u∈l,u∈t.l)->st.length=s.length->sD rk st (fun v=>dc v t=true)->∃st',qw s st l st'/\po st st':=by
    intro l;induction l with
    |nil=>exact fun st _ _ _=>⟨st,.nil,rfl,fun _ _ _=>Iff.rfl⟩
    |cons x l L=>
     intro st A c hp;have hx:=A x (aZ ..);have D:∀v,dc v x=true->dc v t=true:=fun v j=>(lO hk).2 ⟨x,hx,j⟩;obtain⟨s1,Y,M⟩:=T x hx st c (F.dA hk hx) (fun v j=>N v (D v j)) (fun u h0 h1 h v j=>hp u h0 h1 h v (D v j));obtain⟨Z,r2,p2⟩:=L s1 (fun u w=>A u (bH _ w)) (by rw[M.1];exact c) (hp.post M (fun v j=>j));exact⟨Z,.cons Y r2,M.trans p2⟩
   obtain⟨st',r,p⟩:=key t.l st (fun _ h=>h) c hp;exact⟨st',.gK hk r,p⟩
mutual
inductive gv (s:List aa) (v:Int):List Int->aa->Bool->List Int->Prop where
 |seen {met:List Int} {t:aa} (h:bJ s t=true) (h1:met.contains t.n=true):gv s v met t false met
 |go {met met':List Int} {t:aa} {b:Bool} (h:bJ s t=true) (h1:met.contains t.n=false) (r:gv s v (met++[t.n]) (cq s t.n) b met'):gv s v met t b met'
 |var {met:List Int} {t:aa} (h:bJ s t=false) (hk:t.k=1):gv s v met t (t.n==v) met
 |gK {met met':List Int} {t:aa} {b:Bool} (hk:t.k≠1) (r:nQ s v met t.l b met'):gv s v met t b met'
inductive nQ (s:List aa) (v:Int):List Int->List aa->Bool->List Int->Prop where
 |nil {met:List Int}:nQ s v met [] false met
 |yes {met met':List Int} {t:aa} {l:List aa} (r:gv s v met t true met'):nQ s v met (t::l) true met'
 |no {met m1 m2:List Int} {t:aa} {l:List aa} {b:Bool} (r:gv s v met t false m1) (rs:nQ s v m1 l b m2):nQ s v met (t::l) b m2
end
def Tv{s:List aa}{rk:Int->Nat}(w:uW s rk)(v:Int)(m:Nat):∀(t:aa) (met:List Int),ay s.length t->(∀v,dc v t=true->rk v<m)->∃b met',gv s v met t b met':=by
 induction m using p6 with
 |ind m g=>
  intro t;refine aa.ind (P:=fun t=>∀(met:List Int),ay s.length t->(∀v,dc v t=true->rk v<m)->∃b met',gv s v met t b met') (fun t A met j p=>?_) t;by_cases hk:t.k=1
  ·have e:=(mS (v:=t.n) hk).2 rfl;cases c:bJ s t
   ·exact⟨_,_,.var c hk⟩
   cases h1:met.contains t.n
   ·obtain⟨g1,D⟩:=w.less t j c;obtain⟨b,met',r⟩:=g (rk t.n) (p t.n e) (cq s t.n) (met++[t.n]) g1 D;exact⟨_,_,.go c h1 r⟩
   ·exact⟨_,_,.seen c h1⟩
  ·have key:∀(l:List aa) (met:List Int),(∀u∈l,u∈t.l)->∃b met',nQ s v met l b met':=by
    intro l;induction l with
    |nil=>exact fun met _=>⟨_,_,.nil⟩
    |cons x l i=>
     intro met c;have hx:=c x (aZ ..);obtain⟨b,m1,r⟩:=A x hx met (j.dA hk hx) (fun v E=>p v ((lO hk).2 ⟨x,hx,E⟩));cases b
     ·obtain⟨b,m2,rs⟩:=i m1 (fun u F=>c u (bH _ F));exact⟨_,_,.no r rs⟩
     ·exact⟨_,_,.yes r⟩
   obtain⟨b,met',r⟩:=key t.l met (fun _ h=>h);exact⟨_,_,.gK hk r⟩
def pq(s:List aa)(v:Int)(M:List Int)(t:aa):Prop:=∀w,dc w t=true->(bJ s (aJ w)=true->w∈M)/\(bJ s (aJ w)=false->w≠v)
def pq.mono{s:List aa}{v:Int}{M b:List Int}{t:aa}(h:pq s v M t)(c:∀x∈M,x∈b):pq s v b t:=fun w hw=>⟨fun e=>c w ((h w hw).1 e),(h w hw).2⟩
structure sE (s:List aa) (v:Int) (met met':List Int):Prop where
 sub:∀x∈met,x∈met'
 yw:∀x∈met',x∈met\/pq s v met' (cq s x)
def sE.trans{s:List aa}{v:Int}{a b c:List Int}(h:sE s v a b)(k:sE s v b c):sE s v a c:=⟨fun x hx=>k.sub x (h.sub x hx),fun x hx=>by
 rcases k.yw x hx with h1|h1
 ·rcases h.yw x h1 with h2|h2
  ·exact .inl h2
  ·exact .inr (h2.mono k.sub)
 ·exact .inr h1⟩
mutual
def Cw{s:List aa}{v:Int}:∀{met met':List Int} {t:aa} {b:Bool},gv s v met t b met'->b=false->sE s v met met'/\pq s v met' t
 |_,_,t,_,.seen h h1,_=>⟨⟨fun x hx=>hx,fun x hx=>.inl hx⟩,fun w hw=>by
   have e:=(mS (fk h)).1 hw;subst e;exact⟨fun _=>by simpa using h1,fun e=>by rw[<-lP (fk h),h]at e;cases e⟩⟩
 |met,met',t,_,.go h h1 r,g=>by
   obtain⟨o,c⟩:=Cw r g;refine⟨⟨fun x hx=>o.sub x (kM _ hx),fun x hx=>?_⟩,fun w hw=>?_⟩
   ·rcases o.yw x hx with h2|h2
    ·rcases cJ.1 h2 with h3|h3
     ·exact .inl h3
     ·simp at h3;subst h3;exact .inr c
    ·exact .inr h2
   ·have e:=(mS (fk h)).1 hw;subst e;exact⟨fun _=>o.sub _ (by simp),fun e=>by rw[<-lP (fk h),h]at e;cases e⟩
 |_,_,t,_,.var h hk,g=>⟨⟨fun x hx=>hx,fun x hx=>.inl hx⟩,fun w hw=>by
   have e:=(mS hk).1 hw;subst e;exact⟨fun e=>(by rw[<-lP hk,h]at e;cases e),fun _=>by simpa using g⟩⟩
 |_,_,t,_,.gK hk r,g=>by
   obtain⟨o,c⟩:=Ip r g;exact⟨o,fun w hw=>by
    obtain⟨u,j,i⟩:=(lO hk).1 hw;exact c u j w i⟩
def Ip{s:List aa}{v:Int}:∀{met met':List Int} {l:List aa} {b:Bool},nQ s v met l b met'->b=false->sE s v met met'/\∀u∈l,pq s v met' u
 |_,_,_,_,.nil,_=>⟨⟨fun x hx=>hx,fun x hx=>.inl hx⟩,fun u hu=>by cases hu⟩
 |_,_,_,_,.yes r,c=>by cases c
 |_,_,_,_,.no r rs,c=>by
   obtain⟨g,c1⟩:=Cw r rfl;obtain⟨e,h⟩:=Ip rs c;refine⟨g.trans e,fun u hu=>?_⟩;rcases cD.1 hu with rfl|hu
   ·exact c1.mono e.sub
   ·exact h u hu
end
inductive qx (s:List aa) (v:Int):Int->Prop where
 |here:qx s v v
 |go {u w:Int} (h:bJ s (aJ u)=true) (ho:dc w (cq s u)=true) (r:qx s v w):qx s v u
def Tw{s:List aa}{v:Int}{M:List Int}(b:bJ s (aJ v)=false)(c:∀x∈M,pq s v M (cq s x)){w:Int}(r:qx s v w):(bJ s (aJ w)=true->w∈M)->(bJ s (aJ w)=false->w≠v)->False:=by
 induction r with
 |here=>exact fun _ h=>h b rfl
 |go h ho r e=>
  intro h1 _;have hc:=c _ (h1 h) _ ho;exact e hc.1 hc.2
def occ_no{s:List aa}{v:Int}{t:aa}{met:List Int}(b:bJ s (aJ v)=false)(h:gv s v [] t false met):∀w,dc w t=true->¬qx s v w:=fun w hw r=>by
 obtain⟨o,c⟩:=Cw h rfl;have e:∀x∈met,pq s v met (cq s x):=fun x hx=>by
  rcases o.yw x hx with h|h
  ·cases h
  ·exact h
 exact Tw b e r (c w hw).1 (c w hw).2
def Iq{s:List aa}{v u:Int}{t:aa}(h0:0<=v)(h:v<s.length)(b:0<=u):cq (s.set v.toNat t) u=if u=v then t else cq s u:=by
 unfold cq;rw[cx,cx,List.getElem?_set];by_cases e:u=v
 ·subst e;rw[if_pos rfl,if_pos (by omega),if_pos rfl];rfl
 ·rw[if_neg (by omega),if_neg e]
def Ir{s:List aa}(E:sC s){v:Int}(h0:0<=v)(h:v<s.length)(G:bJ s (aJ v)=false){t:aa}(F:ay s.length t){met:List Int}(ho:gv s v [] t false met):sC (s.set v.toNat t):=by
 have j:=occ_no G ho;refine⟨fun u p=>?_,?_⟩
 ·rw[bz];rcases mr p with p|rfl
  ·exact E.holds u p
  ·exact F
 ·obtain⟨rk,J⟩:=E.Cv;obtain⟨K,r⟩:∃K:Nat,∀i:Nat,i<s.length->rk (i:Int)<K:=by
   have:∀n:Nat,∃K:Nat,∀i:Nat,i<n->rk (i:Int)<K:=fun n=>by
    induction n with
    |zero=>exact⟨0,fun i c=>absurd c (fe _)⟩
    |succ n L=>
     obtain⟨K,r⟩:=L;refine⟨max K (rk (n:Int)+1),fun i c=>?_⟩;rcases Be.1 c with h|h
     ·have:=r i h;omega
     ·subst h;omega
   exact this s.length
  have A:∀w,dc w t=true->rk w<K:=fun w hw=>by
   obtain⟨a,b⟩:=F.vars w hw;have:=r w.toNat (by omega);rwa [show((w.toNat:Nat):Int)=w by omega]at this
  refine⟨fun w=>open Classical in rk w+(if qx s v w then K else 0),fun i c D w hw=>?_⟩;rw[bz]at c;rw[Iq h0 h (by omega)]at hw;simp only
  by_cases e:(i:Int)=v
  ·rw[if_pos e]at hw;rw[if_neg (j w hw),e,if_pos .here];have:=A w hw;omega
  ·rw[if_neg e]at hw;have g:bJ s (aJ i)=true:=by
    unfold bJ at D⊢;rw[show(aJ (i:Int)).n=(i:Int)from rfl,Iq h0 h (by omega),if_neg e]at D;exact D
   have:=J i c g w hw;by_cases hl:qx s v w
   ·rw[if_pos hl,if_pos (.go g hw hl)];omega
   ·rw[if_neg hl];split<;>omega
inductive jK (s:List aa) (v:Int) (t:aa):Int->List aa->Prop where
 |yes {met:List Int} (h:gv s v [] t true met):jK s v t 61 s
 |no {met:List Int} (h:gv s v [] t false met):jK s v t 0 (s.set v.toNat t)
def dv:List aa->List aa->List (aa×aa)
 |a::l,b::r=>(a,b)::dv l r
 |_,_=>[]
inductive kp (s:List aa) (a b:aa):List (aa×aa)->Int->List aa->Prop where
 |mk {x y:aa} {n m:Nat} {l:List (aa×aa)} {e:Int} {s':List aa} (hx:eP s a x n) (hy:eP s b y m)
   (h:(x.k=1/\y.k=1/\x.n=y.n/\l=[]/\e=0/\s'=s)\/(x.k=1/\y.k=1/\x.n≠y.n/\l=[]/\jK s (max x.n y.n) (aJ (min x.n y.n)) e s')\/(x.k=1/\y.k≠1/\l=[]/\jK s x.n y e s')\/(x.k≠1/\y.k=1/\l=[]/\jK s y.n x e s')
     \/(x.k≠1/\y.k≠1/\¬(x.k=y.k/\x.name=y.name/\x.l.length=y.l.length)/\l=[]/\e=60/\s'=s)\/(x.k≠1/\y.k≠1/\(x.k=y.k/\x.name=y.name/\x.l.length=y.l.length)/\l=dv x.l y.l/\e=0/\s'=s)):kp s a b l e s'
def de(n N:Nat)(p:aa×aa):Prop:=ay n p.1/\ay n p.2/\aw p.1<=N/\aw p.2<=N
structure bO (N:Nat) (s:List aa):Prop where
 right:sC s
 size:∀t∈s,aw t<=N
def kX{s:List aa}{N:Nat}(e:∀t∈s,aw t<=N){t u:aa}{n:Nat}(r:eP s t u n):(∀x,ay s.length x->bJ s x=true->cq s x.n∈s/\ay s.length (cq s x.n))->ay s.length t->aw t<=N->aw u<=N:=by
 induction r with
 |stop h=>exact fun _ _ h=>h
 |go h r g=>
  intro c i _;obtain⟨a,b⟩:=c _ i h;exact g c b (e _ a)
def yx{n N:Nat}:∀(l r:List aa),(∀u∈l,ay n u/\aw u<=N)->(∀u∈r,ay n u/\aw u<=N)->∀p∈dv l r,de n N p
 |[],r,_,_,p,hp=>by cases r<;>cases hp
 |a::l,[],_,_,p,hp=>by cases hp
 |a::l,b::r,h1,h2,p,hp=>by
  rcases cD.1 hp with rfl|hp
  ·exact⟨(h1 a (by simp)).1,(h2 b (by simp)).1,(h1 a (by simp)).2,(h2 b (by simp)).2⟩
  ·exact yx l r (fun u c=>h1 u (bH _ c)) (fun u c=>h2 u (bH _ c)) p hp
def ij{n:Nat}{v:Int}(h0:0<=v)(h:v<n)(hn:n<=1000000):ay n (aJ v):=by
 refine⟨?_,fun w hw=>?_⟩
 ·rw[iL];have:(v<=4611686018427387904):=by omega
  simp[iK,aJ,aa.k,aa.name,aa.n,aa.l,h0,this]
 ·have:=(mS (t:=aJ v) rfl).1 hw;have e:(aJ v).n=v:=rfl;omega
def Cx{s:List aa}{N:Nat}(c:bO N s)(J:1<=N){v:Int}(h0:0<=v)(h:v<s.length)(D:bJ s (aJ v)=false){t:aa}(g:ay s.length t)(hn:aw t<=N):∃e s',jK s v t e s'/\bO N s'/\s'.length=s.length:=by
 obtain⟨rk,E⟩:=c.right.less;obtain⟨m,F⟩:∃m:Nat,∀w,dc w t=true->rk w<m:=by
  have:∀n:Nat,∃K:Nat,∀i:Nat,i<n->rk (i:Int)<K:=fun n=>by
   induction n with
   |zero=>exact⟨0,fun i j=>absurd j (fe _)⟩
   |succ n G=>
    obtain⟨K,p⟩:=G;refine⟨max K (rk (n:Int)+1),fun i j=>?_⟩;rcases Be.1 j with h|h
    ·have:=p i h;omega
    ·subst h;omega
  obtain⟨K,p⟩:=this s.length;refine⟨K,fun w hw=>?_⟩;obtain⟨a,b⟩:=g.vars w hw;have:=p w.toNat (by omega);rwa [show((w.toNat:Nat):Int)=w by omega]at this
 obtain⟨b,met,r⟩:=Tv E v m t [] g F;cases b
 ·refine⟨0,_,.no r,⟨Ir c.right h0 h D g r,fun u A=>?_⟩,bz ..⟩;rcases mr A with A|rfl
  ·exact c.size u A
  ·exact hn
 ·exact⟨61,s,.yes r,c,rfl⟩
def uX{s:List aa}(rk:Int->Nat){t:aa}(g:ay s.length t):∃m:Nat,∀w,dc w t=true->rk w<m:=by
 have:∀n:Nat,∃K:Nat,∀i:Nat,i<n->rk (i:Int)<K:=fun n=>by
  induction n with
  |zero=>exact⟨0,fun i c=>absurd c (fe _)⟩
  |succ n j=>
   obtain⟨K,e⟩:=j;refine⟨max K (rk (n:Int)+1),fun i c=>?_⟩;rcases Be.1 c with h|h
   ·have:=e i h;omega
   ·subst h;omega
 obtain⟨K,e⟩:=this s.length;refine⟨K,fun w hw=>?_⟩;obtain⟨a,b⟩:=g.vars w hw;have:=e w.toNat (by omega);rwa [show((w.toNat:Nat):Int)=w by omega]at this
def Tx{s:List aa}{N:Nat}(g:bO N s)(J:1<=N)(L:s.length<=1000000){a b:aa}(hp:de s.length N (a,b)):∃l e s',kp s a b l e s'/\bO N s'/\s'.length=s.length/\(∀p∈l,de s.length N p):=by
 obtain⟨rk,Q⟩:=g.right.less;obtain⟨ha,M,Z,nb⟩:=hp;obtain⟨m1,O⟩:=uX rk ha;obtain⟨m2,P⟩:=uX rk M;obtain⟨x,n1,t,_,hx,sx,_⟩:=yv Q m1 a ha O;obtain⟨y,n2,w,_,hy,R,_⟩:=yv Q m2 b M P;have j:∀x,ay s.length x->bJ s x=true->cq s x.n∈s/\ay s.length (cq s x.n):=fun x hx L=>by
  obtain⟨h0,h1,_⟩:=hx.var (fk L);exact⟨iN h0 h1,g.right.holds _ (iN h0 h1)⟩
 have T:=kX g.size t j ha Z;have U:=kX g.size w j M nb;by_cases i:x.k=1
 ·obtain⟨x0,x1,_⟩:=hx.var i;have D:bJ s (aJ x.n)=false:=by rw[<-lP i];exact sx
  by_cases c:y.k=1
  ·obtain⟨X,Y,_⟩:=hy.var c;have A:bJ s (aJ y.n)=false:=by rw[<-lP c];exact R
   by_cases he:x.n=y.n
   ·exact⟨[],0,s,.mk t w (.inl ⟨i,c,he,rfl,rfl,rfl⟩),g,rfl,fun p hp=>by cases hp⟩
   ·have sm:bJ s (aJ (max x.n y.n))=false:=by
     rcases Int.le_total x.n y.n with h|h
     ·rw[Int.max_eq_right h];exact A
     ·rw[Int.max_eq_left h];exact D
    obtain⟨e,s',r,E,F⟩:=Cx g J (v:=max x.n y.n) (by omega) (by omega) sm (ij (v:=min x.n y.n) (by omega) (by omega) L) (by rw[ct];simp[aJ,aa.l,bE];exact J);exact⟨[],e,s',.mk t w (.inr (.inl ⟨i,c,he,rfl,r⟩)),E,F,fun p hp=>by cases hp⟩
  ·obtain⟨e,s',r,E,F⟩:=Cx g J x0 x1 D hy U;exact⟨[],e,s',.mk t w (.inr (.inr (.inl ⟨i,c,rfl,r⟩))),E,F,fun p hp=>by cases hp⟩
 ·by_cases c:y.k=1
  ·obtain⟨X,Y,_⟩:=hy.var c;have A:bJ s (aJ y.n)=false:=by rw[<-lP c];exact R
   obtain⟨e,s',r,E,F⟩:=Cx g J X Y A hx T;exact⟨[],e,s',.mk t w (.inr (.inr (.inr (.inl ⟨i,c,rfl,r⟩)))),E,F,fun p hp=>by cases hp⟩
  ·by_cases hc:x.k=y.k/\x.name=y.name/\x.l.length=y.l.length
   ·refine⟨dv x.l y.l,0,s,.mk t w (.inr (.inr (.inr (.inr (.inr ⟨i,c,hc,rfl,rfl,rfl⟩))))),g,rfl,yx _ _ (fun u G=>⟨hx.dA i G,?_⟩) (fun u G=>⟨hy.dA c G,?_⟩)⟩
    ·have:=jm G;rw[ct]at T;omega
    ·have:=jm G;rw[ct]at U;omega
   ·exact⟨[],60,s,.mk t w (.inr (.inr (.inr (.inr (.inl ⟨i,c,hc,rfl,rfl,rfl⟩))))),g,rfl,fun p hp=>by cases hp⟩
inductive ee:Nat->List aa->List (aa×aa)->Int->List aa->Prop where
 |done {n:Nat} {s:List aa}:ee n s [] 0 s
 |out {s:List aa} {st:List (aa×aa)} (h:st≠[]):ee 0 s st 62 s
 |fail {n:Nat} {s s':List aa} {st l:List (aa×aa)} {p:aa×aa} {e:Int} (h:kp s p.1 p.2 l e s') (he:e≠0):ee (n+1) s (st++[p]) e s'
 |go {n:Nat} {s s1 s':List aa} {st l:List (aa×aa)} {p:aa×aa} {e:Int} (h:kp s p.1 p.2 l 0 s1) (r:ee n s1 (st++l.reverse) e s'):ee (n+1) s (st++[p]) e s'
def Is{N:Nat}(u:1<=N):∀(n:Nat) (s:List aa) (st:List (aa×aa)),bO N s->s.length<=1000000->(∀p∈st,de s.length N p)->∃e s',ee n s st e s'/\bO N s'/\s'.length=s.length
 |0,s,st,g,w,c=>by
  by_cases h:st=[]
  ·subst h;exact⟨0,s,.done,g,rfl⟩
  ·exact⟨62,s,.out h,g,rfl⟩
 |n+1,s,st,g,w,c=>by
  by_cases h:st=[]
  ·subst h;exact⟨0,s,.done,g,rfl⟩
  ·obtain⟨i,p,rfl⟩:∃i p,st=i++[p]:=⟨st.dropLast,st.getLast h,(List.dropLast_concat_getLast h).symm⟩;obtain⟨l,e,s1,r,A,j,E⟩:=Tx g u w (a:=p.1) (b:=p.2) (c p (by simp));by_cases he:e=0
   ·subst he;obtain⟨e,s',F,G,J⟩:=Is u n s1 (i++l.reverse) A (by omega) (fun D t=>by
     rw[j];rcases cJ.1 t with h|h
     ·exact c D (kM _ h)
     ·exact E D (List.mem_reverse.1 h))
    exact⟨e,s',.go r F,G,J.trans j⟩
   ·exact⟨e,s1,.fail r he,A,j⟩
def K.new(κ:K)(w w':World):K:={κ with m:=fun b o=>if b<w.heap.size then κ.m b o else w'.cell? ⟨b,o,none⟩}
section
variable {P:Program} {w0 w w':World} {κ:K} {σ:H}
def K.Iu(h:aB w0 κ σ w):κ.le (κ.new w w'):=
 RV.same (fun b o v c=>by
  show(if b<w.heap.size then _ else _)=_;rw[if_pos (h.nK c)];exact c) (aA _) (fun _ _=>rfl) (fun _ _=>rfl) (fun _ _=>rfl) (fun _ _=>rfl)
def aB.new(h:aB w0 κ σ w)(G:Below w.heap.size w w'):aB w0 (κ.new w w') σ w':=by
 have i:κ.le (κ.new w w'):=K.Iu h;have hg:=h.grow G;have c:∀b o,b<w.heap.size->(κ.new w w').m b o=κ.m b o:=fun b o p=>by show(if b<w.heap.size then _ else _)=_;rw[if_pos p]
 refine⟨h.n,hg.ext,fun b o v D=>?_,fun b r=>?_,fun x y hx hy g E=>h.apart x y hx hy g E,fun l o J=>hg.rest l o J,hg.dG⟩
 ·rcases eh b w.heap.size with p|L
  ·rw[c b o p]at D;exact hg.mem b o v D
  ·have u:(if b<w.heap.size then κ.m b o else w'.cell? ⟨b,o,none⟩)=some v:=D;rw[if_neg (by omega)]at u;exact u
 ·have h1:=hg.cg b r;have hl:=fun g hg=>(h.iG (g:=g) r hg).2;cases hσ:σ[b]with
  |cells cs=>
   rw[hσ]at h1 hl;obtain⟨vs,t,M,N,k3⟩:=h1.row;exact⟨h1.fr,⟨vs,t,M,N,fun j F=>⟨(k3 j F).1,(k3 j F).2.mono i⟩⟩,h1.own,fun o=>(c _ o (hl _ rfl)).trans (h1.free o),h1.ty⟩
  |spare e size n=>
   rw[hσ]at h1 hl;exact⟨h1.fr,h1.sz,h1.row,fun g A o ho=>(c g o (hl g A)).trans (h1.free g A o ho)⟩
  |vec e size cs=>
   rw[hσ]at h1 hl;exact ad.mw.le h1 i.m h1.fr rfl rfl (fun o=>(c _ o (hl _ rfl)).trans (h1.free o))
  |mp O=>
   rw[hσ]at h1 hl;exact ad.mapped.le h1 i.m h1.fr rfl (fun o=>(c _ o (hl _ rfl)).trans (h1.free o))
  |gone=>trivial
def DC.Cy{f:FuncId}{args:List V}{d:V}(g:Enters P f)(h:∀κ w vs,aB w0 κ σ w->Fits κ args vs->Calls P f vs.toArray w (fun e w'=>∃v,e= .returned v/\Below w.heap.size w w'/\RV (κ.new w w') d v)):
  DC P w0 f args σ (Same d σ):=by
 refine⟨g,fun κ w vs b c=>(h κ w vs b c).mono ?_⟩;rintro e w' ⟨v,he,i,j⟩;exact⟨v,d,σ,κ.new w w',he,⟨rfl,rfl⟩,K.Iu b,b.new i,j⟩
def aB.Ty(h0:aB w0 κ σ w)(u:Below w.heap.size w w')(e size:Nat)(v:Value)(T:(∃A,v= .slice A 0 0)\/w'.ownsRow w.heap.size e size v 0 []):aB w0 (κ.own v size) (σ++[.spare e size 0]) w':=by
 have h:=h0.grow u;have E:κ.le (κ.own v size):=K.sg;have F:∀b,b<σ.length->(κ.own v size).fr b=κ.fr b:=fun b u=>by show(if b=κ.n then _ else _)=_;rw[if_neg (by rw[h.n];omega)]
 have p:∀b,b<σ.length->(κ.own v size).sv b=κ.sv b:=fun b u=>by show(if b=κ.n then _ else _)=_;rw[if_neg (by rw[h.n];omega)]
 have G:∀b,b<σ.length->(κ.own v size).sz b=κ.sz b:=fun b u=>by show(if b=κ.n then _ else _)=_;rw[if_neg (by rw[h.n];omega)]
 have J:(κ.own v size).fr σ.length=some 0:=by show(if σ.length=κ.n then _ else _)=_;rw[if_pos h.n.symm]
 have t:(κ.own v size).sv σ.length=v:=by show(if σ.length=κ.n then _ else _)=_;rw[if_pos h.n.symm]
 have L:(κ.own v size).sz σ.length=size:=by show(if σ.length=κ.n then _ else _)=_;rw[if_pos h.n.symm]
 have c:∀g,heldBy v=some g->w.heap.size<=g:=fun g hg=>by
  rcases T with⟨A,rfl⟩|ho
  ·cases A<;>cases hg
  ·exact(ho.lt g (xz hg)).1
 refine⟨by show κ.n+1=_;rw[h.n];simp,h.ext,h.mem,fun b u=>?_,fun x y hx hy g M=>?_,fun l o D=>⟨(h.rest l o D).1,(h.rest l o D).2.1,uk (κ:=κ) (fun b u=>ad.kR (κ:=κ) rfl (p b u)) (h.rest l o D).2.2 (by simp only[ad.bo];rw[t];intro e;have:=c _ e;have:=(Array.getElem?_eq_some_iff.1 (h0.rest l o D).1).1;omega)⟩,h.dG⟩
 ·rcases eh b σ.length with r|r
  ·rw[cM r];exact ad.is_le (κ:=κ) rfl E rfl (F b r) (p b r) (G b r) (h.cg b r)
  ·have N:b=σ.length:=by simp at u;omega
   subst N;rw[dY (aA _)];simp only[cw,di];refine⟨J,L,?_,fun g hg o _=>?_⟩
   ·rw[t];rcases T with⟨A,rfl⟩|ho
    ·exact .inl ⟨rfl,A,rfl⟩
    ·refine .inr ⟨[],ho.1,?_⟩;rcases ho.2 with h1|⟨g,cap,cur,U,X,Y⟩
     ·exact .inl h1
     ·exact .inr ⟨g,cap,cur,U,bf h0.ext.size X,Y⟩
   ·rw[t]at hg;exact h0.fresh (c g hg) o
 ·rcases eh x σ.length with j|j
  ·rcases eh y σ.length with i|i
   ·rw[cM j,cM i,ad.kR (κ:=κ) (κ':=κ.own v size) rfl (p x j),ad.kR (κ:=κ) (κ':=κ.own v size) rfl (p y i)];exact h.apart x y j i g M
   ·have O:y=σ.length:=by simp at hy;omega
    subst O;rw[cM j,dY (aA _),ad.kR (κ:=κ) (κ':=κ.own v size) rfl (p x j)];simp only[cw,di,ad.bo];rw[t];intro P Q;have:=(h0.iG j P).2;have:=c g Q;omega
  ·have R:x=σ.length:=by simp at hx;omega
   subst R;have i:y<σ.length:=by simp at hy;omega
   rw[dY (aA _),cM i,ad.kR (κ:=κ) (κ':=κ.own v size) rfl (p y i)];simp only[cw,di,ad.bo];rw[t];intro P Q;have:=(h0.iG i Q).2;have:=c g P;omega
def DC.Bp{f:FuncId}{args:List V}{e size:Nat}(j:Enters P f)(h:∀κ w vs,aB w0 κ σ w->Fits κ args vs->Calls P f vs.toArray w (fun r w'=>∃v,r= .returned v/\Below w.heap.size w w'/\((∃A,v= .slice A 0 0)\/w'.ownsRow w.heap.size e size v 0 []))):
  DC P w0 f args σ (Same (.aC σ.length []) (σ++[.spare e size 0])):=by
 refine⟨j,fun κ w vs b c=>(h κ w vs b c).mono ?_⟩;rintro r w' ⟨v,he,G,F⟩;have p:(κ.own v size).fr σ.length=some 0:=by show(if σ.length=κ.n then _ else _)=_;rw[if_pos b.n.symm]
 have t:(κ.own v size).sv σ.length=v:=by show(if σ.length=κ.n then _ else _)=_;rw[if_pos b.n.symm]
 have u:RC (κ.own v size).m (.sl []) v:=by
  rcases F with⟨A,rfl⟩|ho
  ·exact .sl [] 0 A 0 [] (by simp) (aA _) (be _) (by simp) (fun h=>absurd rfl h) (fun i D=>by simp at D)
  ·rcases ho.2 with⟨rfl,_⟩|⟨g,cap,cur,rfl,_,_,hc,E,_⟩
   ·exact RC.nil _
   ·exact .sl [] 0 _ cap [] (by simp) hc E (by simp) (fun h=>absurd rfl h) (fun i D=>by simp at D)
 exact⟨v,.aC σ.length [],_,κ.own v size,he,⟨rfl,rfl⟩,K.sg,b.Ty G e size v F,.aC u (by show _<κ.n+1;rw[b.n];omega) p (aA _) (fun _=>t.symm) (by simp)⟩
def aV.own{n0:Nat}{g:Env}(d e size:Nat)(i:g d= .ae []):aV n0 ⟨g.put (some d) (.aC σ.length []),σ++[.spare e size 0]⟩ ⟨g,σ⟩:=fun w0 t n κ a w u h=>by
 have b:=h.dk;have j:=h.env d;rw[show(⟨g,σ⟩:St).ρ d=g d from rfl,i]at j;generalize hx:a.tmps.getD d undef=v at j;cases j with
 |ae h1=>
  rename_i A;have c:κ.le (κ.own (.slice A 0 0) size):=K.sg;have p:(κ.own (.slice A 0 0) size).fr σ.length=some 0:=by show(if σ.length=κ.n then _ else _)=_;rw[if_pos b.n.symm]
  have r:(κ.own (.slice A 0 0) size).sv σ.length= .slice A 0 0:=by show(if σ.length=κ.n then _ else _)=_;rw[if_pos b.n.symm]
  refine⟨κ.own (.slice A 0 0) size,b.own e size A,fun k=>?_,h.size,h.defers,K.le_trans h.le c⟩;show RV _ (Env.put g (some d) _ k) _;rw[uM];by_cases hk:k=d
  ·subst hk;rw[if_pos rfl,hx];exact .aC (h1.mono c.m) (by show _<κ.n+1;rw[b.n];exact A7 _) p (aA _) (fun _=>r.symm) (by simp)
  ·rw[if_neg hk];exact(h.env k).mono c
def W.own{n0:Nat}{Q:St->Prop}{k:List It}{b:Env}(d e size:Nat)(c:b d= .ae [])(h:W P w0 n0 Q k ⟨b.put (some d) (.aC σ.length []),σ++[.spare e size 0]⟩):W P w0 n0 Q k ⟨b,σ⟩:=.ek (aV.own d e size c) h
end
section
variable {P:Program} {w0 w w':World} {κ:K} {σ:H}
def aB.yy(h:aB w0 κ σ w){b j:Nat}{cs:List V}{tg:Option TypeId}{y:V}(P:σ[b]?=some (.cells cs tg))(hl:y.leaf=true)
  (J:∀vs t,w.heap[κ.pos b]?=some (.cells vs t (0,0))->∀(Y:j<cs.length),RV κ cs[j] (vs.getD j undef)->RV κ y (vs.getD j undef)):aB w0 κ (σ.set b (.cells (cs.set j y) tg)) w:=by
 obtain⟨Q,u⟩:=aI.1 P;have key:∀z (G:z<σ.length) (p:z<(σ.set b (.cells (cs.set j y) tg)).length) g,((σ.set b (.cells (cs.set j y) tg))[z]).bo κ z=some g->(σ[z]).bo κ z=some g:=fun z G p g hg=>by
  by_cases A:z=b
  ·subst A;rw[gU]at hg;rw[u];exact hg
  ·rw[gb (fun e=>A e.symm)]at hg;exact hg
 refine⟨by rw[bz];exact h.n,h.ext,h.mem,fun c hc=>?_,fun x z hx G g L=>?_,fun l o M=>⟨(h.rest l o M).1,(h.rest l o M).2.1,fun z p e=>(h.rest l o M).2.2 z (by simpa using p) (key z (by simpa using p) p l e)⟩,h.dG⟩
 ·have N:c<σ.length:=by simpa using hc
  have h1:=h.cg c N;by_cases D:c=b
  ·subst D;rw[gU];rw[u]at h1;obtain⟨vs,t,O,R,k3⟩:=h1.row;refine⟨h1.fr,⟨vs,t,O,by rw[bz];exact R,fun i T=>?_⟩,h1.own,h1.free,h1.ty⟩;have r:i<cs.length:=by simpa using T
   by_cases E:j=i
   ·subst E;rw[gU];exact⟨hl,J vs t O r (k3 j r).2⟩
   ·rw[gb E];exact k3 i r
  ·rw[gb (fun e=>D e.symm)];exact h1
 ·have F:x<σ.length:=by simpa using hx
  have p:z<σ.length:=by simpa using G
  intro U X;exact h.apart x z F p g L (key x F hx g U) (key z p G g X)
def aV.nR{n0:Nat}{u:Env}(b j e size:Nat){cs:List V}{tg:Option TypeId}(N:σ[b]?=some (.cells cs tg))(O:cs[j]?=some (.ae [])):
  aV n0 ⟨u,(σ++[ad.spare e size 0]).set b (.cells (cs.set j (.aC σ.length [])) tg)⟩ ⟨u,σ⟩:=fun w0 P n κ a w Q p=>by
 have c:=p.dk;obtain⟨i,D⟩:=aI.1 N;obtain⟨E,F⟩:=aI.1 O;have h1:=c.cg b i;rw[show(⟨u,σ⟩:St).σ[b]= .cells cs tg from D]at h1;obtain⟨vs,t,R,Z,k3⟩:=h1.row;have G:=(k3 j E).2;rw[F]at G;generalize hx:vs.getD j undef=v at G;cases G with
 |ae hc=>
  rename_i A;have g:κ.le (κ.own (.slice A 0 0) size):=K.sg;have J:(κ.own (.slice A 0 0) size).fr σ.length=some 0:=by show(if σ.length=κ.n then _ else _)=_;rw[if_pos c.n.symm]
  have L:(κ.own (.slice A 0 0) size).sv σ.length= .slice A 0 0:=by show(if σ.length=κ.n then _ else _)=_;rw[if_pos c.n.symm]
  have M:=c.own e size A;have r:(κ.own (.slice A 0 0) size).pos b=κ.pos b:=(g.cells b (by rw[c.n];exact i) h1.fr).2;refine⟨κ.own (.slice A 0 0) size,M.yy (b:=b) (j:=j) (cs:=cs) (tg:=tg) (y:=.aC σ.length []) ((cr i).trans N) rfl (fun T t' h U X=>?_),fun k=>(p.env k).mono g,p.size,p.defers,K.le_trans p.le g⟩;rw[r,R]at h;injection h with h;injection h with Y e2;subst Y;rw[hx];exact .aC (hc.mono g.m) (by show _<κ.n+1;rw[c.n];exact A7 _) J (aA _) (fun _=>L.symm) (by simp)
def W.nR{n0:Nat}{Q:St->Prop}{k:List It}{c:Env}(b j e size:Nat){cs:List V}{tg:Option TypeId}(g:σ[b]?=some (.cells cs tg))(i:cs[j]?=some (.ae []))
 (h:W P w0 n0 Q k ⟨c,(σ++[ad.spare e size 0]).set b (.cells (cs.set j (.aC σ.length [])) tg)⟩):W P w0 n0 Q k ⟨c,σ⟩:=.ek (aV.nR b j e size g i) h
end
structure gw (σ:H) (b v:Nat):Prop where
 ne:b≠v
 lb:b<σ.length
 lv:v<σ.length
def rs(σ:H)(b v:Nat)(X Y:ad):H:=(σ.set b X).set v Y
section
variable {σ:H} {b v:Nat}
@[simp] theorem kY (X Y:ad):(rs σ b v X Y).length=σ.length:=by simp[rs]
def Cz(D:gw σ b v)(L:H)(X Y:ad):rs (σ++L) b v X Y=rs σ b v X Y++L:=by
 unfold rs;rw[ly _ _ D.lb,ly _ _ (by simpa using D.lv)]
def CA(D:gw σ b v)(X Y:ad):(rs σ b v X Y)[b]?=some X:=by
 unfold rs;rw[bA (fun e=>D.ne e.symm),bW D.lb]
def CB(D:gw σ b v)(X Y:ad):(rs σ b v X Y)[v]?=some Y:=by
 unfold rs;rw[bW (by simpa using D.lv)]
def Tz(D:gw σ b v)(L:H)(X Y:ad):(rs σ b v X Y++L)[b]?=some X:=by
 rw[cr (by simpa using D.lb),CA D]
def TA(D:gw σ b v)(L:H)(X Y:ad):(rs σ b v X Y++L)[v]?=some Y:=by
 rw[cr (by simpa using D.lv),CB D]
def Iv(D:gw σ b v)(X Y Z:ad):(rs σ b v X Y).set b Z=rs σ b v Z Y:=by
 unfold rs;rw[List.set_comm _ _ (fun e=>D.ne e.symm),rS]
def qy(X Y Z:ad):(rs σ b v X Y).set v Z=rs σ b v X Z:=by
 unfold rs;rw[rS]
def TB(D:gw σ b v)(L:H)(X Y Z:ad):(rs σ b v X Y++L).set b Z=rs σ b v Z Y++L:=by
 rw[ly _ _ (by simpa using D.lb),Iv D]
def TC(D:gw σ b v)(L:H)(X Y Z:ad):(rs σ b v X Y++L).set v Z=rs σ b v X Z++L:=by
 rw[ly _ _ (by simpa using D.lv),qy]
def sF(x:ad)(L:H)(X Y:ad):(rs σ b v X Y++x::L)[σ.length]?=some x:=by
 rw[da (by simp),kY,cw];rfl
def sG(k:Nat)(L:H)(X Y:ad):(rs σ b v X Y++L)[σ.length+k]?=L[k]?:=by
 rw[da (by simp),kY,fu]
def sH(x:ad)(L:H)(X Y:ad):(rs σ b v X Y++L).set σ.length x=rs σ b v X Y++L.set 0 x:=by
 rw[gX _ _ (by simp),kY,cw]
def sI(k:Nat)(x:ad)(L:H)(X Y:ad):(rs σ b v X Y++L).set (σ.length+k) x=rs σ b v X Y++L.set k x:=by
 rw[gX _ _ (by simp),kY,fu]
def gw.app(D:gw σ b v)(L:H):gw (σ++L) b v:=⟨D.ne,by have:=D.lb;simp;omega,by have:=D.lv;simp;omega⟩
def iO(D:gw σ b v):(∀X Y:ad,(rs σ b v X Y)[b]?=some X)/\(∀(L:H) (X Y:ad),(rs σ b v X Y++L)[b]?=some X)/\(∀X Y:ad,(rs σ b v X Y)[v]?=some Y)/\(∀(L:H) (X Y:ad),(rs σ b v X Y++L)[v]?=some Y)/\(∀X Y Z:ad,(rs σ b v X Y).set b Z=rs σ b v Z Y)/\(∀(L:H) (X Y Z:ad),(rs σ b v X Y++L).set b Z=rs σ b v Z Y++L)/\(∀(L:H) (X Y Z:ad),(rs σ b v X Y++L).set v Z=rs σ b v X Z++L)/\(∀(L:H) (X Y:ad),rs (σ++L) b v X Y=rs σ b v X Y++L):=
 ⟨CA D,Tz D,CB D,TA D,Iv D,TB D,TC D,Cz D⟩
def TD(D:gw σ b v){X Y g j:ad}(h:H.ok (rs σ b v X Y))(hx:∀cs tg,g= .cells cs tg->∀x∈cs,V.low σ.length x)(hy:∀cs tg,j= .cells cs tg->∀x∈cs,V.low σ.length x):H.ok (rs σ b v g j):=by
 intro B u cs tg hc x c;rw[kY];obtain⟨i,t,rfl⟩:=eH u;have w:i<σ.length:=by simpa using t
 have hg:(rs σ b v g j)[i]?=some (.cells cs tg):=by rw[aN t,hc]
 by_cases p:i=v
 ·subst p;rw[CB D]at hg;injection hg with hg;exact hy cs tg hg x c
 ·by_cases r:i=b
  ·subst r;rw[CA D]at hg;injection hg with hg;exact hx cs tg hg x c
  ·have e:(rs σ b v X Y)[i]?=some (.cells cs tg):=by
    rw[<-hg];unfold rs;rw[bA (fun e=>p e.symm),bA (fun e=>r e.symm),bA (fun e=>p e.symm),bA (fun e=>r e.symm)]
   have:=h (.cells cs tg) (GN e) cs tg rfl x c;rwa [kY]at this
def DC.lift{P:Program}{w0:World}{f:FuncId}{args:List V}{L:H}{X Y c e:ad}{d:V}(D:gw σ b v)(h:gw (σ++L) b v->DC P w0 f args (rs (σ++L) b v X Y) (Same d (rs (σ++L) b v c e))):DC P w0 f args (rs σ b v X Y++L) (Same d (rs σ b v c e++L)):=by rw[<-Cz D,<-Cz D];exact h (D.app L)
end
def yz(l:List cb):C:=.sl (l.map fun s=>[C.str s])
structure yA where
 k:Int
 names:List cb
 n:Int
 ty:aa
 op:eO
 body:al
 pos:Int
def yA.v(s:yA):V:=.agg [I s.k,.c (yz s.names),I s.n,I s.ty.k,S s.ty.name,I s.ty.n,.c (aM s.ty.l),S s.op.name,I s.op.prec,I s.op.fix,I s.body.k,S s.body.name,I s.body.n,.c (.sl (s.body.l.map al.cs)),I s.body.pos,I s.pos]
def rz(σ:H)(b:Nat)(X:ad):H:=σ.set b X
section
variable {σ:H} {b:Nat}
@[simp] theorem kq (X:ad):(rz σ b X).length=σ.length:=by simp[rz]
def CC(D:b<σ.length)(L:H)(X:ad):rz (σ++L) b X=rz σ b X++L:=ly _ _ D
def CD(D:b<σ.length)(X:ad):(rz σ b X)[b]?=some X:=bW D
def TE(D:b<σ.length)(L:H)(X:ad):(rz σ b X++L)[b]?=some X:=by
 rw[cr (by simpa using D),CD D]
def yC(X Z:ad):(rz σ b X).set b Z=rz σ b Z:=by unfold rz;rw[rS]
def TF(D:b<σ.length)(L:H)(X Z:ad):(rz σ b X++L).set b Z=rz σ b Z++L:=by
 rw[ly _ _ (by simpa using D),yC]
def CF(x:ad)(L:H)(X:ad):(rz σ b X++x::L)[σ.length]?=some x:=by
 rw[da (by simp),kq,cw];rfl
def uY(k:Nat)(L:H)(X:ad):(rz σ b X++L)[σ.length+k]?=L[k]?:=by
 rw[da (by simp),kq,fu]
def CG(x:ad)(L:H)(X:ad):(rz σ b X++L).set σ.length x=rz σ b X++L.set 0 x:=by
 rw[gX _ _ (by simp),kq,cw]
def CH(k:Nat)(x:ad)(L:H)(X:ad):(rz σ b X++L).set (σ.length+k) x=rz σ b X++L.set k x:=by
 rw[gX _ _ (by simp),kq,fu]
def TG(D:b<σ.length)(L:H):b<(σ++L).length:=by simp;omega
def Iw(D:b<σ.length){X g:ad}(h:H.ok (rz σ b X))(hx:∀cs tg,g= .cells cs tg->∀x∈cs,V.low σ.length x):H.ok (rz σ b g):=by
 intro B r cs tg hc x c;rw[kq];obtain⟨i,p,rfl⟩:=eH r;have t:i<σ.length:=by simpa using p
 have hg:(rz σ b g)[i]?=some (.cells cs tg):=by rw[aN p,hc]
 by_cases j:i=b
 ·subst j;rw[CD D]at hg;injection hg with hg;exact hx cs tg hg x c
 ·have e:(rz σ b X)[i]?=some (.cells cs tg):=by
   rw[<-hg];unfold rz;rw[bA (fun e=>j e.symm),bA (fun e=>j e.symm)]
  have:=h (.cells cs tg) (GN e) cs tg rfl x c;rwa [kq]at this
def eo(D:b<σ.length):(∀X:ad,(rz σ b X)[b]?=some X)/\(∀(L:H) (X:ad),(rz σ b X++L)[b]?=some X)/\(∀(L:H) (X Z:ad),(rz σ b X++L).set b Z=rz σ b Z++L)/\(∀(L:H) (X:ad),rz (σ++L) b X=rz σ b X++L):=⟨CD D,TE D,TF D,CC D⟩
def DC.CI{P:Program}{w0:World}{f:FuncId}{args:List V}{L:H}{X c:ad}{d:V}(D:b<σ.length)(h:b<(σ++L).length->DC P w0 f args (rz (σ++L) b X) (Same d (rz (σ++L) b c))):DC P w0 f args (rz σ b X++L) (Same d (rz σ b c++L)):=by rw[<-CC D,<-CC D];exact h (TG D L)
end
section
variable {P:Program} {w0:World} {σ:H}
def sJ(r:List ak)(R:V->H->Prop)(s:St):Prop:=∃vs d,aX s r=some vs/\V.wk (aT vs) d/\R d s.σ
def DC.TH{f:FuncId}{fn:Func}{x:AC}{r:List ak}{args:List V}{R:V->H->Prop}(F:P.follows .mixedOrders=true)(hf:P.funcs[f]?=some fn)(G:fn.body=some (fn.body.getD .skip))(J:tr P fn.ntmps (fn.body.getD .skip)=some x)
  (L:ko P fn.results.toList=some r) (u:args.length<=fn.ntmps) (A:Enters P f) (M:H.ok σ->(∀x∈args,V.Sz x)->W P w0 σ.length (sJ r R) [.code x] ⟨ji args,σ⟩):DC P w0 f args σ R:=by
 refine⟨A,fun κ w vs c g=>?_⟩;refine calls_of_wp hf G ?_;have N:Rel w0 κ fn.ntmps κ ⟨ji args,σ⟩ {tmps:=vs.toArray++Array.replicate (fn.ntmps-vs.toArray.size) undef,defers:=[]} w:=
  ⟨c,B4 g _,by simp[g.1];omega,rfl,K.le_refl κ⟩
 have i:∀s κ' a w,Rel w0 κ fn.ntmps κ' s a w->sJ r R s->a.defers=[]/\∃v,(results fn a.tmps).run P w= .ok v w/\∃v' d p h,Ending.returned v= .returned v'/\R d p/\κ.le h/\aB w0 h p w/\RV h d v':=by
  rintro s κ' a w b ⟨vs,d,h1,h2,O⟩;obtain⟨v,Q,T⟩:=B3 b L h1;exact⟨b.defers,v,Q,v,d,s.σ,κ',rfl,O,b.le,b.dk,T.wk h2⟩
 refine wp_mono (mE (n0:=σ.length) c.n F (fn.body.getD .skip) x J (M c.ok g.sz) N) ?_;rintro e a w' ⟨s,κ',b,j⟩;cases e with
 |normal=>
  obtain⟨t,hl,U⟩:=W.BS j;obtain⟨D,E⟩:=hl w0 κ fn.ntmps κ' a w' c.n b;exact i t D a w' E U
 |ret=>exact i s κ' a w' b j
 |exit id=>obtain⟨X,hp,_⟩:=j;cases hp
 |goto l=>exact j.elim
 |panic Y=>exact j.elim
 |outgrown=>exact j.elim
def aq.cl{f:FuncId}{n:Nat}{fn:Func}{x:AC}{r:List ak}(K:aq P f n fn x r){args:List V}{R:V->H->Prop}(ha:args.length=n)(h:H.ok σ->(∀x∈args,V.Sz x)->W P w0 σ.length (sJ r R) [.code x] ⟨ji args,σ⟩):DC P w0 f args σ R:=
 DC.TH K.hm K.hf K.hb K.ag K.dI (by rw[ha];exact K.hn) K.en h
end
section
variable {α:Type} (g:α->Int->aa×α)
mutual
def b8:α->aa->aa×α
 |s,.mk k b n l=>if k=1 then g s n else(.mk (if k=2/\l.length=2 then 2 else 0) (if k=2/\l.length=2 then[]else b) 0 (bF s l).1,(bF s l).2)
def bF:α->List aa->List aa×α
 |s,[]=>([],s)
 |s,x::l=>((b8 s x).1::(bF (b8 s x).2 l).1,(bF (b8 s x).2 l).2)
end
def mT(s:α)(p:aa):b8 g s p=if p.k=1 then g s p.n else(.mk (if cX p=true then 2 else 0) (if cX p=true then[]else p.name) 0 (bF g s p.l).1,(bF g s p.l).2):=by
 cases p;rw[b8];simp only[aa.k,aa.l,aa.name,aa.n,cX,bM,beq_iff_eq]
def Ix:∀(l r:List aa) (s:α),bF g s (l++r)=((bF g s l).1++(bF g (bF g s l).2 r).1,(bF g (bF g s l).2 r).2)
 |[],r,s=>by simp[bF]
 |x::l,r,s=>by rw[iB,bF,bF,Ix l r];rfl
def qz:∀(l:List aa) (s:α),(bF g s l).1.length=l.length
 |[],s=>by simp[bF]
 |x::l,s=>by rw[bF,bG,bG,qz l]
def yD(s:α){l:List aa}{i:Nat}(h:i<l.length):bF g s (l.take (i+1))=((bF g s (l.take i)).1++[(b8 g (bF g s (l.take i)).2 l[i]).1],(b8 g (bF g s (l.take i)).2 l[i]).2):=by
 rw[List.take_succ_eq_append_getElem h,Ix,bF,bF]
end
def gA(b:Int):Unit->Int->aa×Unit:=fun _ v=>(.var (aE.wrap (v+b)),())
def iP(vs:List Int)(v:Int):Nat:=(vs.findIdx? (·==v)).getD vs.length
def dm(vs:List Int)(v:Int):List Int:=if(vs.findIdx? (·==v)).isSome then vs else vs++[v]
def b9:List Int->Int->aa×List Int:=fun vs v=>(.var (iP vs v),dm vs v)
def bT(p:aa):aa:=(b8 b9 [] p).1
def CJ(vs:List Int)(v:Int):(dm vs v).length<=vs.length+1/\vs.length<=(dm vs v).length:=by
 unfold dm;split<;>simp
def Iy(vs:List Int)(v:Int):(iP vs v=vs.length/\dm vs v=vs++[v]/\∀j (b:j<vs.length),(vs[j]==v)=false)\/(∃hk:iP vs v<vs.length,dm vs v=vs/\vs[iP vs v]=v/\∀j (b:j<vs.length),j<iP vs v->(vs[j]==v)=false):=by
 unfold iP dm;cases h:vs.findIdx? (·==v)with
 |none=>
  left;rw[List.findIdx?_eq_none_iff]at h;exact⟨rfl,rfl,fun j b=>h _ (bg b)⟩
 |some k=>
  right;obtain⟨hk,h1,h2⟩:=List.findIdx?_eq_some_iff_getElem.1 h;exact⟨hk,rfl,by simpa using h1,fun j b c=>by simpa using h2 j c⟩
structure ep where
 name:cb
 n:Int
structure av where
 name:cb
 ty:aa
structure Sg where
 kinds:List ep
 types:List av
 ops:List eO
def ep.cs(x:ep):List C:=[.str x.name,.int .i64 x.n]
def ep.v(x:ep):V:=.agg [S x.name,I x.n]
def av.cs(x:av):List C:=[.str x.name,.int .i64 x.ty.k,.str x.ty.name,.int .i64 x.ty.n,aM x.ty.l]
def av.v(x:av):V:=.agg [S x.name,I x.ty.k,S x.ty.name,I x.ty.n,.c (aM x.ty.l)]
def av.none:av:=⟨[],.none⟩
def jL(l:List ep):C:=.sl (l.map ep.cs)
def fy(l:List av):C:=.sl (l.map av.cs)
def Sg.v(s:Sg):V:=.agg [.c (jL s.kinds),.c (fy s.types),.c (mP s.ops)]
def mU(l:List av)(name:cb):Option av:=l.find? (·.name==name)
noncomputable section
def eqStr:List UInt8->List UInt8->Bool
 |[],[]=>true
 |a::l,b::r=>bif cm a.toNat b.toNat then eqStr l r else false
 |_,_=>false
def CK:∀{a b:List UInt8},eqStr a b=true->a=b
 |[],[],_=>rfl
 |x::l,y::r,h=>by
  simp only[eqStr,cond_eq_ite]at h;split at h
  ·rename_i hx;have h1:x=y:=UInt8.toNat_inj.1 (fP hx);rw[h1,CK h]
  ·cases h
 |[],_::_,h=>by cases h
 |_::_,[],h=>by cases h
def CL:Int->Int->Bool
 | .ofNat a,.ofNat b=>cm a b
 | .negSucc a,.negSucc b=>cm a b
 |_,_=>false
def TJ{a b:Int}(h:CL a b=true):a=b:=by
 cases a<;>cases b<;>simp only[CL]at h
 ·rw[fP h]
 ·cases h
 ·cases h
 ·rw[fP h]
mutual
def kr:C->C->Bool
 | .bool a,.bool b=>a==b
 | .int k a,.int q b=>decide (k=q)&&CL a b
 | .str a,.str b=>eqStr a b
 | .sl a,.sl b=>lQ a b
 | .eL,.eL=>true
 | .ref a n,.ref b m=>qA a b&&cm n m
 | .jD,.jD=>true
 | .err,.err=>true
 |_,_=>false
def qA:List C->List C->Bool
 |[],[]=>true
 |a::l,b::r=>kr a b&&qA l r
 |_,_=>false
def lQ:List (List C)->List (List C)->Bool
 |[],[]=>true
 |a::l,b::r=>qA a b&&lQ l r
 |_,_=>false
end
mutual
def yE:∀{a b:C},kr a b=true->a=b
 | .bool a,b,h=>by cases b<;>simp[kr]at h;rw[h]
 | .int k a,b,h=>by
   cases b<;>simp[kr]at h;rw[h.1,TJ h.2]
 | .str a,b,h=>by cases b<;>simp[kr]at h;rw[CK h]
 | .sl a,b,h=>by cases b<;>simp[kr]at h;rw[sK h]
 | .eL,b,h=>by cases b<;>simp[kr]at h;rfl
 | .ref a n,b,h=>by
   cases b<;>simp[kr]at h;rw[yG h.1,h.2]
 | .jD,b,h=>by cases b<;>simp[kr]at h;rfl
 | .err,b,h=>by cases b<;>simp[kr]at h;rfl
def yG:∀{a b:List C},qA a b=true->a=b
 |[],b,h=>by cases b<;>simp[qA]at h;rfl
 |x::l,b,h=>by
  cases b<;>simp[qA]at h;rw[yE h.1,yG h.2]
def sK:∀{a b:List (List C)},lQ a b=true->a=b
 |[],b,h=>by cases b<;>simp[lQ]at h;rfl
 |x::l,b,h=>by
  cases b<;>simp[lQ]at h;rw[yG h.1,sK h.2]
end
mutual
def gL:V->V->Bool
 | .void,.void=>true
 | .any,.any=>true
 | .c a,.c b=>kr a b
 | .ptr a n,.ptr b m=>cm a b&&cm n m
 | .aC a r,.aC b q=>cm a b&&lQ r q
 | .ae r,.ae q=>lQ r q
 | .fn f a,.fn g b=>cm f g&&mV a b
 | .cu,.cu=>true
 | .mp a,.mp b=>cm a b
 | .cN,.cN=>true
 | .vec a k,.vec b m=>cm a b&&cm k m
 | .agg a,.agg b=>mV a b
 | .au a,.au b=>mV a b
 |_,_=>false
def mV:List V->List V->Bool
 |[],[]=>true
 |a::l,b::r=>gL a b&&mV l r
 |_,_=>false
end
mutual
def yH:∀{a b:V},gL a b=true->a=b
 | .void,b,h=>by cases b<;>simp[gL]at h;rfl
 | .any,b,h=>by cases b<;>simp[gL]at h;rfl
 | .c a,b,h=>by cases b<;>simp[gL]at h;rw[yE h]
 | .ptr a n,b,h=>by cases b<;>simp[gL]at h;rw[h.1,h.2]
 | .aC a r,b,h=>by cases b<;>simp[gL]at h;rw[h.1,sK h.2]
 | .ae r,b,h=>by cases b<;>simp[gL]at h;rw[sK h]
 | .fn f a,b,h=>by
   cases b<;>simp[gL]at h;rw[h.1,sL h.2]
 | .cu,b,h=>by cases b<;>simp[gL]at h;rfl
 | .mp a,b,h=>by cases b<;>simp[gL]at h;rw[h]
 | .cN,b,h=>by cases b<;>simp[gL]at h;rfl
 | .vec a k,b,h=>by cases b<;>simp[gL]at h;rw[h.1,h.2]
 | .agg a,b,h=>by cases b<;>simp[gL]at h;rw[sL h]
 | .au a,b,h=>by cases b<;>simp[gL]at h;rw[sL h]
def sL:∀{a b:List V},mV a b=true->a=b
 |[],b,h=>by cases b<;>simp[mV]at h;rfl
 |x::l,b,h=>by
  cases b<;>simp[mV]at h;rw[yH h.1,sL h.2]
end
def CM:Option TypeId->Option TypeId->Bool
 |none,none=>true
 |some a,some b=>cm a b
 |_,_=>false
def TK{a b:Option TypeId}(h:CM a b=true):a=b:=by
 cases a<;>cases b<;>simp only[CM]at h
 ·rfl
 ·cases h
 ·cases h
 ·rw[fP h]
def yK:List (C×C)->List (C×C)->Bool
 |[],[]=>true
 |(a,x)::l,(b,y)::r=>kr a b&&(kr x y&&yK l r)
 |_,_=>false
def Iz:∀{a b:List (C×C)},yK a b=true->a=b
 |[],[],_=>rfl
 |(x,u)::l,(y,v)::r,h=>by
  simp only[yK,bM]at h;rw[yE h.1,yE h.2.1,Iz h.2.2]
 |[],_::_,h=>by cases h
 |_::_,[],h=>by cases h
def CN:ad->ad->Bool
 | .cells a t,.cells b u=>mV a b&&CM t u
 | .spare a s n,.spare b t m=>cm a b&&(cm s t&&cm n m)
 | .mp a,.mp b=>yK a b
 | .vec e s a,.vec f t b=>cm e f&&(cm s t&&qA a b)
 | .gone,.gone=>true
 |_,_=>false
def TL{a b:ad}(h:CN a b=true):a=b:=by
 cases a<;>cases b<;>simp only[CN,bM]at h<;>first|(cases h;done)|skip
 ·rw[sL h.1,TK h.2]
 ·rw[fP h.1,fP h.2.1,fP h.2.2]
 ·rw[Iz h]
 ·rw[fP h.1,fP h.2.1,yG h.2.2]
 ·rfl
def kZ:H->H->Bool
 |[],[]=>true
 |a::l,b::r=>CN a b&&kZ l r
 |_,_=>false
def qB:∀{a b:H},kZ a b=true->a=b
 |[],[],_=>rfl
 |x::l,y::r,h=>by
  simp only[kZ,bM]at h;rw[TL h.1,qB h.2]
 |[],_::_,h=>by cases h
 |_::_,[],h=>by cases h
section
variable {α β:Type}
def fN(n:Nat)(k:Nat->α):α:=match n with
 |0=>k 0
 |m+1=>k (Nat.succ m)
def yN(n:Nat)(k:Nat->α):fN n k=k n:=by cases n<;>rfl
def fI(i:Int)(k:Int->α):α:=match i with
 | .ofNat n=>fN n fun n=>k (.ofNat n)
 | .negSucc n=>fN n fun n=>k (.negSucc n)
def IA(i:Int)(k:Int->α):fI i k=k i:=by cases i<;>simp only[fI,yN]
def fB(b:Bool)(k:Bool->α):α:=match b with
 |true=>k true
 |false=>k false
def nS(b:Bool)(k:Bool->α):fB b k=k b:=by cases b<;>rfl
def fL(f:β->(β->α)->α)(l:List β):(List β->α)->α:=List.rec (motive:=fun _=>(List β->α)->α) (fun k=>k []) (fun a _ b k=>f a fun a=>b fun l=>k (a::l)) l
def TM(f:β->(β->α)->α)(a:β)(l:List β)(k:List β->α):fL f (a::l) k=f a fun a=>fL f l fun l=>k (a::l):=rfl
def la{f:β->(β->α)->α}(hf:∀a k,f a k=k a):∀(l:List β) (k:List β->α),fL f l k=k l
 |[],k=>rfl
 |a::l,k=>by simp only[TM,hf,la hf l]
def fC(x:C)(k:C->α):α:=match x with
 | .bool b=>fB b fun b=>k (.bool b)
 | .int q n=>fI n fun n=>k (.int q n)
 |x=>k x
def uZ(x:C)(k:C->α):fC x k=k x:=by cases x<;>simp only[fC,nS,IA]
def fR(l:List (List C))(k:List (List C)->α):α:=fL (fL fC) l k
def IB(l:List (List C))(k:List (List C)->α):fR l k=k l:=la (fun a k=>la uZ a k) l k
def CO(x:C)(k:C->α):α:=match x with
 | .bool b=>fB b fun b=>k (.bool b)
 | .int q n=>fI n fun n=>k (.int q n)
 | .str l=>fL (fun a k=>k a) l fun l=>k (.str l)
 | .sl r=>fR r fun r=>k (.sl r)
 | .ref cs o=>fL fC cs fun cs=>fN o fun o=>k (.ref cs o)
 |x=>k x
def TN(x:C)(k:C->α):CO x k=k x:=by
 cases x<;>simp only[CO,nS,IA,IB,yN]
 ·exact la (fun _ _=>rfl) _ _
 ·rw[la uZ]
def nT(x:V)(k:V->α):α:=match x with
 | .void=>k .void
 | .any=>k .any
 | .c x=>fC x fun x=>k (.c x)
 | .ptr b o=>k (.ptr b o)
 | .aC b r=>k (.aC b r)
 | .ae r=>k (.ae r)
 | .fn f l=>k (.fn f l)
 | .cu=>k .cu
 | .mp b=>k (.mp b)
 | .cN=>k .cN
 | .vec b n=>k (.vec b n)
 | .agg l=>k (.agg l)
 | .au l=>k (.au l)
def yO(x:V)(k:V->α):nT x k=k x:=by cases x<;>simp only[nT,uZ]
def nU(x:V)(k:V->α):α:=match x with
 | .c x=>CO x fun x=>k (.c x)
 | .ptr b o=>fN b fun b=>fN o fun o=>k (.ptr b o)
 | .aC b r=>fN b fun b=>fR r fun r=>k (.aC b r)
 | .ae r=>fR r fun r=>k (.ae r)
 | .fn f l=>fN f fun f=>fL nT l fun l=>k (.fn f l)
 | .mp b=>fN b fun b=>k (.mp b)
 | .vec b n=>fN b fun b=>fN n fun n=>k (.vec b n)
 | .agg l=>fL nT l fun l=>k (.agg l)
 | .au l=>fL nT l fun l=>k (.au l)
 |x=>k x
def qC(x:V)(k:V->α):nU x k=k x:=by cases x<;>simp only[nU,TN,yN,IB,la yO]
def sM(x:V)(k:V->α):α:=match x with
 | .au l=>fL nU l fun l=>k (.au l)
 |x=>nU x k
def IC(x:V)(k:V->α):sM x k=k x:=by cases x<;>simp only[sM,qC,la qC]
def yP(x:ad)(k:ad->α):α:=match x with
 | .cells cs tg=>fL nT cs fun cs=>k (.cells cs tg)
 | .spare e s n=>fN n fun n=>k (.spare e s n)
 | .mp c=>fL (fun p k=>fC p.1 fun a=>fC p.2 fun b=>k (a,b)) c fun c=>k (.mp c)
 | .vec e s cs=>fL fC cs fun cs=>k (.vec e s cs)
 | .gone=>k .gone
def ID(x:ad)(k:ad->α):yP x k=k x:=by
 cases x<;>simp only[yP,yN,la yO,la uZ];exact la (fun p k=>by simp only[uZ]) _ _
def fH(σ:H)(k:H->α):α:=fL yP σ k
def yQ(σ:H)(k:H->α):fH σ k=k σ:=la ID σ k
def fS(σ:H)(k:H->α):α:=fL (fun x k=>k x) σ k
def TO(σ:H)(k:H->α):fS σ k=k σ:=la (fun _ _=>rfl) σ k
def IE(σ:H):Nat->(H->α)->α:=List.rec (motive:=fun _=>Nat->(H->α)->α) (fun _ k=>k []) (fun x l b i k=>Nat.rec (motive:=fun _=>α) (yP x fun x=>k (x::l)) (fun i _=>b i fun l=>k (x::l)) i) σ
def IF:∀(σ:H) (i:Nat) (k:H->α),IE σ i k=k σ
 |[],_,_=>rfl
 |x::l,0,k=>ID x fun x=>k (x::l)
 |x::l,i+1,k=>IF l i fun l=>k (x::l)
end
inductive TR where
 |e
 |n (v:V) (l r:TR)
def TR.get(t:TR):Nat->V:=TR.rec (motive:=fun _=>Nat->V) (fun _=>.void) (fun v _ _ b c i=>Nat.rec (motive:=fun _=>V) v (fun i _=>Bf (motive:=fun _=>V) (c (Nat.div i 2)) (b (Nat.div i 2)) (cm (Nat.mod i 2) 0)) i) t
section
variable {α:Type}
def TR.pt(t:TR):Nat->V->(TR->Option α)->Option α:=TR.rec (motive:=fun _=>Nat->V->(TR->Option α)->Option α) (fun _ _ _=>none)
 (fun u l r b c i v k=>Nat.rec (motive:=fun _=>Option α) (k (.n v l r)) (fun i _=>Bf (motive:=fun _=>Option α) (c (Nat.div i 2) v fun r=>k (.n u l r)) (b (Nat.div i 2) v fun l=>k (.n u l r)) (cm (Nat.mod i 2) 0)) i) t
end
def TR.qD(v:V)(l r:TR)(i:Nat)(h:i%2=0):(TR.n v l r).get (i+1)=l.get (i/2):=by
 show Bf (motive:=fun _=>V) _ _ (cm (i%2) 0)=_;rw[h];rfl
def TR.qE(v:V)(l r:TR)(i:Nat)(h:i%2=1):(TR.n v l r).get (i+1)=r.get (i/2):=by
 show Bf (motive:=fun _=>V) _ _ (cm (i%2) 0)=_;rw[h];rfl
def TR.yR{α:Type}{b:α}:∀{t:TR} {i:Nat} {v:V} {k:TR->Option α},t.pt i v k=some b->∃g,k g=some b/\∀j,g.get j=if j=i then v else t.get j
 | .e,_,_,_,h=>by cases h
 | .n u l r,i,v,k,h=>by
   cases i with
   |zero=>
    refine⟨.n v l r,h,fun j=>?_⟩;cases j with
    |zero=>rfl
    |succ j=>rfl
   |succ i=>
    have c:Bf (motive:=fun _=>Option α) (r.pt (i/2) v (fun r=>k (.n u l r))) (l.pt (i/2) v (fun l=>k (.n u l r))) (cm (i%2) 0)=some b:=h;rcases Bg i with hi|hi
    ·rw[hi]at c;obtain⟨p,h1,h2⟩:=TR.yR (t:=l) (show l.pt (i/2) v (fun l=>k (.n u l r))=some b from c);refine⟨.n u p r,h1,fun j=>?_⟩;cases j with
     |zero=>rfl
     |succ j=>
      rcases Bg j with hj|hj
      ·rw[TR.qD _ _ _ _ hj,TR.qD _ _ _ _ hj,h2];have:(j/2=i/2)↔(j+1=i+1):=by omega
       simp only[this]
      ·rw[TR.qE _ _ _ _ hj,TR.qE _ _ _ _ hj,if_neg (by omega)]
    ·rw[hi]at c;obtain⟨w,h1,h2⟩:=TR.yR (t:=r) (show r.pt (i/2) v (fun r=>k (.n u l r))=some b from c);refine⟨.n u l w,h1,fun j=>?_⟩;cases j with
     |zero=>rfl
     |succ j=>
      rcases Bg j with hj|hj
      ·rw[TR.qD _ _ _ _ hj,TR.qD _ _ _ _ hj,if_neg (by omega)]
      ·rw[TR.qE _ _ _ _ hj,TR.qE _ _ _ _ hj,h2];have:(j/2=i/2)↔(j+1=i+1):=by omega
       simp only[this]
def TR.full:Nat->TR
 |0=>.e
 |d+1=>.n .void (TR.full d) (TR.full d)
def TR.CP:∀(d i:Nat),(TR.full d).get i= .void
 |0,_=>rfl
 |d+1,0=>rfl
 |d+1,i+1=>by
  rcases Bg i with hi|hi
  ·rw[TR.full,TR.qD _ _ _ _ hi,TR.CP d]
  ·rw[TR.full,TR.qE _ _ _ _ hi,TR.CP d]
end
inductive V.cy (ι:Nat->Nat) (m:Nat):V->V->Prop where
 |void:V.cy ι m .void .void
 |any:V.cy ι m .any .any
 |c (x:C):V.cy ι m (.c x) (.c x)
 |ptr {j o:Nat} (h:j<m):V.cy ι m (.ptr (ι j) o) (.ptr j o)
 |aC {j:Nat} {r:List (List C)} (h:j<m):V.cy ι m (.aC (ι j) r) (.aC j r)
 |ae (r:List (List C)):V.cy ι m (.ae r) (.ae r)
 |fn {f:FuncId} {a b:List V} (hl:b.length=a.length) (h:∀k (hk:k<a.length) (hk':k<b.length),V.cy ι m a[k] b[k]):V.cy ι m (.fn f a) (.fn f b)
 |cu:V.cy ι m .cu .cu
 |mp {j:Nat} (h:j<m):V.cy ι m (.mp (ι j)) (.mp j)
 |cN:V.cy ι m .cN .cN
 |vec {j k:Nat} (h:j<m):V.cy ι m (.vec (ι j) k) (.vec j k)
 |agg {a b:List V} (hl:b.length=a.length) (h:∀k (hk:k<a.length) (hk':k<b.length),V.cy ι m a[k] b[k]):V.cy ι m (.agg a) (.agg b)
 |au {a b:List V} (hl:b.length=a.length) (h:∀k (hk:k<a.length) (hk':k<b.length),V.cy ι m a[k] b[k]):V.cy ι m (.au a) (.au b)
inductive ad.cy (ι:Nat->Nat) (m:Nat):ad->ad->Prop where
 |cells {a b:List V} {tg:Option TypeId} (hl:b.length=a.length) (h:∀k (hk:k<a.length) (hk':k<b.length),V.cy ι m a[k] b[k]):ad.cy ι m (.cells a tg) (.cells b tg)
 |spare (e s n:Nat):ad.cy ι m (.spare e s n) (.spare e s n)
 |mp (l:List (C×C)):ad.cy ι m (.mp l) (.mp l)
 |vec (e s:Nat) (cs:List C):ad.cy ι m (.vec e s cs) (.vec e s cs)
 |gone:ad.cy ι m .gone .gone
def K.pack(κ:K)(ι:Nat->Nat)(m:Nat):K:={κ with n:=m,pos:=fun j=>κ.pos (ι j),fr:=fun j=>κ.fr (ι j),sv:=fun j=>κ.sv (ι j),sz:=fun j=>κ.sz (ι j)}
section
variable {w0 w:World} {κ:K} {σ τ:H} {ι:Nat->Nat} {m:Nat}
def RV.pack{x y:V}{v:Value}(h:V.cy ι m x y)(r:RV κ x v):RV (κ.pack ι m) y v:=by
 induction h generalizing v with
 |void=>cases r;exact .void
 |any=>exact .any v
 |c x=>cases r with|c h=>exact .c h
 |ptr b=>cases r with|ptr h h1=>exact RV.ptr (κ:=κ.pack ι m) b h1
 |aC b=>cases r with|aC h h1 h2 i p t=>exact RV.aC (κ:=κ.pack ι m) h b h2 i p t
 |ae u=>cases r with|ae h=>exact .ae h
 |fn hl h e=>cases r with|fn k g=>exact .fn (by omega) fun j b=>e j (by omega) b (g j (by omega))
 |cu=>cases r;exact .cu
 |mp b=>cases r with|mp h h1=>exact RV.mp (κ:=κ.pack ι m) b h1
 |cN=>cases r;exact .cN
 |vec b=>cases r with|vec h h1 h2 i p t=>exact RV.vec (κ:=κ.pack ι m) b h1 h2 i p t
 |agg hl h e=>cases r with|agg k g=>exact .agg (by omega) fun j b=>e j (by omega) b (g j (by omega))
 |au hl h e=>cases r with|au k g=>exact .au (by omega) fun j b=>e j (by omega) b (g j (by omega))
def V.TP{x y:V}(h:V.cy ι m x y):y.leaf=x.leaf:=by cases h<;>rfl
def ad.CQ{a b:ad}(h:ad.cy ι m a b)(j:Nat):b.bo (κ.pack ι m) j=a.bo κ (ι j):=by cases h<;>rfl
def aB.pack(h:aB w0 κ σ w)(c:∀j,j<m->ι j<σ.length)(E:∀i j,i<m->j<m->ι i=ι j->i=j)(F:τ.length=m)(D:∀j (u:j<m) (L:j<τ.length) (r:ι j<σ.length),ad.cy ι m σ[ι j] τ[j]):aB w0 (κ.pack ι m) τ w:=by
 refine⟨F.symm,h.ext,h.mem,fun j u=>?_,fun i j M u g G=>?_,fun l o J=>⟨(h.rest l o J).1,(h.rest l o J).2.1,fun j u=>?_⟩,h.dG⟩
 ·have b:j<m:=by omega
  have r:=c j b;have h1:=h.cg (ι j) r;have h2:=D j b u r;generalize σ[ι j]=X at h1 h2;generalize τ[j]=Y at h2⊢;cases h2 with
  |cells hl hc=>
   obtain⟨vs,t,N,O,k3⟩:=h1.row;refine⟨h1.fr,⟨vs,t,N,by omega,fun k hk=>?_⟩,h1.own,h1.free,h1.ty⟩;have A:=hc k (by omega) hk;have:=k3 k (by omega);exact⟨(V.TP A).trans this.1,this.2.pack A⟩
  |spare e s n=>exact⟨h1.fr,h1.sz,h1.row,h1.free⟩
  |mp l=>exact⟨h1.fr,h1.row,h1.own,h1.free⟩
  |vec e s cs=>exact⟨h1.fr,h1.row,h1.own,h1.free⟩
  |gone=>trivial
 ·have p:i<m:=by omega
  have b:j<m:=by omega
  rw[ad.CQ (D i p M (c i p)),ad.CQ (D j b u (c j b))];exact h.apart _ _ (c i p) (c j b) g (fun e=>G (E i j p b e))
 ·have b:j<m:=by omega
  rw[ad.CQ (D j b u (c j b))];exact(h.rest l o J).2.2 _ (c j b)
def K.yS{c:K}(h:c.le κ)(hid:∀b,b<c.n->ι b=b)(hn:c.n<=m):c.le (κ.pack ι m):=by
 refine⟨h.m,hn,fun b e hf=>?_,fun b f e hf=>?_,fun b e hf=>?_,h.rest,h.dG⟩
 ·show κ.fr (ι b)=none/\κ.pos (ι b)=_;rw[hid b e];exact h.cells b e hf
 ·show∃f',κ.fr (ι b)=some f'/\f<=f'/\(f'=f->κ.sv (ι b)=_)/\κ.sz (ι b)=_;rw[hid b e];exact h.spare b f e hf
 ·show κ.sv (ι b)=_;rw[hid b e];exact h.ue b e hf
def DC.pack{P:Program}{f:FuncId}{args:List V}{d h:V}{σ1:H}(hd:DC P w0 f args σ (Same d σ1))(hid:∀b,b<σ.length->ι b=b)(hn:σ.length<=m)(p:∀j,j<m->ι j<σ1.length)(r:∀i j,i<m->j<m->ι i=ι j->i=j)(t:τ.length=m)
  (u:∀j (M:j<m) (A:j<τ.length) (D:ι j<σ1.length),ad.cy ι m σ1[ι j] τ[j]) (E:V.cy ι m d h):DC P w0 f args σ (Same h τ):=by
 refine⟨hd.enters,fun κ w vs c g=>(hd.run κ w vs c g).mono ?_⟩;rintro e w' ⟨v,d0,F,κ',rfl,⟨rfl,rfl⟩,G,J,L⟩;exact⟨v,h,τ,κ'.pack ι m,rfl,⟨rfl,rfl⟩,K.yS G (fun b u=>hid b (by rw[<-c.n];exact u)) (by rw[c.n];exact hn),J.pack p r t u,L.pack E⟩
end
def posOf(b:Nat):Nat->List Nat->Option Nat
 |_,[]=>none
 |i,a::l=>cond (cm a b) (some i) (posOf b (i+1) l)
def IG{b:Nat}:∀{l:List Nat} {i k:Nat},posOf b i l=some k->i<=k/\∃h:k-i<l.length,l[k-i]=b
 |[],_,_,h=>by cases h
 |a::l,i,k,h=>by
  unfold posOf at h;cases hc:cm a b with
  |true=>
   rw[hc]at h;injection h with h;subst h;have:=fP hc;exact⟨aA _,by simp,by simpa using this⟩
  |false=>
   rw[hc]at h;obtain⟨h1,h2,c⟩:=IG (l:=l) h;refine⟨by omega,by simp;omega,?_⟩;have e:k-i=(k-(i+1))+1:=by omega
   simp only[e,ml];exact c
def sN(n0:Nat)(js:List Nat)(b:Nat):Option Nat:=cond (mu b n0) (some b) (posOf b n0 js)
def jn(n0:Nat)(js:List Nat)(j:Nat):Nat:=if j<n0 then j else js.getD (j-n0) 0
def TQ{n0 b k:Nat}{js:List Nat}(h:sN n0 js b=some k):k<n0+js.length/\jn n0 js k=b:=by
 unfold sN at h;cases hc:mu b n0 with
 |true=>
  rw[hc]at h;injection h with h;subst h;have:b<n0:=fv hc;exact⟨by omega,by unfold jn;rw[if_pos this]⟩
 |false=>
  rw[hc]at h;obtain⟨h1,h2,c⟩:=IG h;refine⟨by omega,?_⟩;unfold jn;rw[if_neg (by omega)];simp[mb,h2,c]
def u7(n0:Nat)(js:List Nat):V->Option V
 | .void=>some .void
 | .any=>some .any
 | .c x=>some (.c x)
 | .ae r=>some (.ae r)
 | .cu=>some .cu
 | .cN=>some .cN
 | .ptr b o=>match sN n0 js b with
   |some k=>some (.ptr k o)
   |none=>none
 | .aC b r=>match sN n0 js b with
   |some k=>some (.aC k r)
   |none=>none
 | .mp b=>match sN n0 js b with
   |some k=>some (.mp k)
   |none=>none
 | .vec b n=>match sN n0 js b with
   |some k=>some (.vec k n)
   |none=>none
 |_=>none
def qF(g:V->Option V):List V->Option (List V)
 |[]=>some []
 |x::l=>match g x with
  |none=>none
  |some y=>match qF g l with
   |none=>none
   |some r=>some (y::r)
def u9(n0:Nat)(js:List Nat):V->Option V
 | .fn f caps=>match qF (u7 n0 js) caps with
   |some l=>some (.fn f l)
   |none=>none
 | .agg vs=>match qF (u7 n0 js) vs with
   |some l=>some (.agg l)
   |none=>none
 |x=>u7 n0 js x
def CR(n0:Nat)(js:List Nat):V->Option V
 | .au vs=>match qF (u9 n0 js) vs with
   |some l=>some (.au l)
   |none=>none
 |x=>u9 n0 js x
def CS(n0:Nat)(js:List Nat):ad->Option ad
 | .cells cs tg=>match qF (u9 n0 js) cs with
   |some l=>some (.cells l tg)
   |none=>none
 | .spare e s n=>some (.spare e s n)
 | .mp l=>some (.mp l)
 | .vec e s cs=>some (.vec e s cs)
 | .gone=>some .gone
section
variable {n0:Nat} {js:List Nat}
def CU{x y:V}(h:u7 n0 js x=some y):V.cy (jn n0 js) (n0+js.length) x y:=by
 unfold u7 at h;split at h<;>first
  |(injection h with h;subst h;constructor;done)
  |(split at h
    ·rename_i k hk;obtain⟨h1,h2⟩:=TQ hk;injection h with h;subst h;rw[<-h2];constructor;exact h1
    ·cases h)
  |(cases h;done)
def vd{g:V->Option V}{R:V->V->Prop}(hg:∀x y,g x=some y->R x y):∀{l r:List V},qF g l=some r->r.length=l.length/\∀k (hk:k<l.length) (hk':k<r.length),R l[k] r[k]
 |[],r,h=>by injection h with h;subst h;exact⟨rfl,fun k hk=>by simp at hk⟩
 |x::l,r,h=>by
  unfold qF at h;split at h
  ·cases h
  ·rename_i y hy;split at h
   ·cases h
   ·rename_i c b;injection h with h;subst h;obtain⟨h1,h2⟩:=vd hg b;refine⟨by simp[h1],fun k hk hk'=>?_⟩;cases k with
    |zero=>exact hg _ _ hy
    |succ k=>exact h2 k (by simpa using hk) (by simpa using hk')
def CV{x y:V}(h:u9 n0 js x=some y):V.cy (jn n0 js) (n0+js.length) x y:=by
 unfold u9 at h;split at h
 ·split at h
  ·rename_i l hl;injection h with h;subst h;obtain⟨h1,h2⟩:=vd (fun _ _=>CU) hl;exact .fn h1 h2
  ·cases h
 ·split at h
  ·rename_i l hl;injection h with h;subst h;obtain⟨h1,h2⟩:=vd (fun _ _=>CU) hl;exact .agg h1 h2
  ·cases h
 ·exact CU h
def TS{x y:V}(h:CR n0 js x=some y):V.cy (jn n0 js) (n0+js.length) x y:=by
 unfold CR at h;split at h
 ·split at h
  ·rename_i l hl;injection h with h;subst h;obtain⟨h1,h2⟩:=vd (fun _ _=>CV) hl;exact .au h1 h2
  ·cases h
 ·exact CV h
def TT{x y:ad}(h:CS n0 js x=some y):ad.cy (jn n0 js) (n0+js.length) x y:=by
 unfold CS at h;split at h
 ·split at h
  ·rename_i l hl;injection h with h;subst h;obtain⟨h1,h2⟩:=vd (fun _ _=>CV) hl;exact .cells h1 h2
  ·cases h
 all_goals (injection h with h;subst h;constructor)
end
def CW:V->List Nat
 | .ptr b _=>[b]
 | .aC b _=>[b]
 | .mp b=>[b]
 | .vec b _=>[b]
 |_=>[]
def ve(g:V->List Nat):List V->List Nat->List Nat
 |[],b=>b
 |x::l,b=>g x++ve g l b
def CX:V->List Nat
 | .fn _ caps=>ve CW caps []
 | .agg vs=>ve CW vs []
 |x=>CW x
def TU:V->List Nat
 | .au vs=>ve CX vs []
 |x=>CX x
def II:ad->List Nat->List Nat
 | .cells cs _,b=>ve CX cs b
 |_,b=>b
def IJ:Nat->H->List Nat->List Nat
 |0,_,c=>c
 |_,[],c=>c
 |n+1,b::σ,c=>II b (IJ n σ c)
def IK(a:Nat):List Nat->Bool
 |[]=>false
 |b::l=>cond (cm a b) true (IK a l)
def IL(ls:List Nat):Nat->H->List Nat×List Nat
 |_,[]=>([],ls)
 |i,b::σ=>match IL ls (i+1) σ with
  |(js,ls)=>cond (IK i ls) (i::js,II b ls) (js,ls)
def vf:Nat->Nat->List Nat->Bool
 |_,_,[]=>true
 |lo,n,a::l=>dM lo a&&(mu a n&&vf (a+1) n l)
def IM{n:Nat}:∀{l:List Nat} {b:Nat},vf b n l=true->(∀k (hk:k<l.length),b<=l[k]/\l[k]<n)/\∀i j (e:i<l.length) (g:j<l.length),i<j->l[i]<l[j]
 |[],b,_=>⟨fun k hk=>by simp at hk,fun i j e=>by simp at e⟩
 |a::l,b,h=>by
  unfold vf at h;simp only[bM]at h;obtain⟨h1,h2⟩:=IM h.2.2;have p:b<=a:=fv h.1;have r:a<n:=fv h.2.1;refine⟨fun k hk=>?_,fun i j e g t=>?_⟩
  ·cases k with
   |zero=>exact⟨p,r⟩
   |succ k=>
    have:=h1 k (by simpa using hk);simp only[ml];omega
  ·cases j with
   |zero=>omega
   |succ j=>
    have c:j<l.length:=by simpa using g
    cases i with
    |zero=>
     have:=(h1 j c).1;simp only[di,ml];omega
    |succ i=>
     simp only[ml];exact h2 i j (by simpa using e) c (by omega)
def yU(n0:Nat)(js:List Nat):H->Option H
 |[]=>some []
 |b::σ=>match CS n0 js b with
  |none=>none
  |some c=>match yU n0 js σ with
   |none=>none
   |some τ=>some (c::τ)
def yY(σ:H):List Nat->Option H
 |[]=>some []
 |j::js=>match σ[j]? with
  |none=>none
  |some b=>match yY σ js with
   |none=>none
   |some τ=>some (b::τ)
def IN{n0:Nat}{js:List Nat}:∀{σ τ:H},yU n0 js σ=some τ->τ.length=σ.length/\∀k (hk:k<σ.length) (hk':k<τ.length),ad.cy (jn n0 js) (n0+js.length) σ[k] τ[k]
 |[],τ,h=>by injection h with h;subst h;exact⟨rfl,fun k hk=>by simp at hk⟩
 |b::σ,τ,h=>by
  unfold yU at h;split at h
  ·cases h
  ·rename_i i e;split at h
   ·cases h
   ·rename_i g c;injection h with h;subst h;obtain⟨h1,h2⟩:=IN c;refine⟨by simp[h1],fun k hk hk'=>?_⟩;cases k with
    |zero=>exact TT e
    |succ k=>exact h2 k (by simpa using hk) (by simpa using hk')
def IP{σ:H}:∀{js:List Nat} {τ:H},yY σ js=some τ->τ.length=js.length/\∀k (hk:k<js.length) (hk':k<τ.length),σ[js[k]]?=some τ[k]
 |[],τ,h=>by injection h with h;subst h;exact⟨rfl,fun k hk=>by simp at hk⟩
 |j::js,τ,h=>by
  unfold yY at h;split at h
  ·cases h
  ·rename_i b e;split at h
   ·cases h
   ·rename_i g c;injection h with h;subst h;obtain⟨h1,h2⟩:=IP c;refine⟨by simp[h1],fun k hk hk'=>?_⟩;cases k with
    |zero=>exact e
    |succ k=>exact h2 k (by simpa using hk) (by simpa using hk')
def CY(n0:Nat)(d:V)(σ:H):Option (V×H):=
 match IL (TU d++IJ n0 σ []) n0 (σ.drop n0)with
 |(js,_)=>cond (dM n0 σ.length&&vf n0 σ.length js) (match yY σ js with
  |none=>none
  |some L=>match yU n0 js (σ.take n0++L)with
   |none=>none
   |some τ=>match CR n0 js d with
    |none=>none
    |some b=>some (b,τ)) none
def TV{P:Program}{w0:World}{f:FuncId}{args:List V}{σ σ1 τ:H}{d N:V}(hd:DC P w0 f args σ (Same d σ1))(h:CY σ.length d σ1=some (N,τ)):DC P w0 f args σ (Same N τ):=by
 unfold CY at h;split at h;rename_i js ls T;cases hc:(dM σ.length σ1.length&&vf σ.length σ1.length js)with
 |false=>rw[hc]at h;cases h
 |true=>
  rw[hc]at h;simp only[bM]at hc;have hn:σ.length<=σ1.length:=fv hc.1;obtain⟨D,O⟩:=IM hc.2;simp only[cond_true]at h;split at h
  ·cases h
  ·rename_i L U;split at h
   ·cases h
   ·rename_i E F;split at h
    ·cases h
    ·rename_i d0 G;injection h with h;injection h with h1 h2;subst h1 h2;obtain⟨X,Y⟩:=IP U;obtain⟨Q,Z⟩:=IN F;have A:E.length=σ.length+js.length:=by rw[Q];simp[X,Nat.min_eq_left hn]
     have g:∀j,σ.length<=j->j<σ.length+js.length->∃hk:j-σ.length<js.length,jn σ.length js j=js[j-σ.length]:=fun j h1 h2=>by
      have hk:j-σ.length<js.length:=by omega
      refine⟨hk,?_⟩;unfold jn;rw[if_neg (by omega)];simp[mb,hk]
     have c:∀j,j<σ.length->jn σ.length js j=j:=fun j t=>by unfold jn;rw[if_pos t]
     refine hd.pack (ι:=jn σ.length js) (m:=σ.length+js.length) (fun b hb=>c b hb) (by omega) (fun j t=>?_) (fun i j R t e=>?_) A (fun j t hj' J=>?_) (TS G)
     ·rcases eh j σ.length with u|u
      ·rw[c j u];omega
      ·obtain⟨hk,e⟩:=g j u t;rw[e];exact(D _ hk).2
     ·rcases eh i σ.length with p|p<;>rcases eh j σ.length with hj'|hj'
      ·rwa [c i p,c j hj']at e
      ·obtain⟨hk,w⟩:=g j hj' t;rw[c i p,w]at e;have:=(D _ hk).1;omega
      ·obtain⟨hk,w⟩:=g i p R;rw[c j hj',w]at e;have:=(D _ hk).1;omega
      ·obtain⟨hk,w⟩:=g i p R;obtain⟨hk',e3⟩:=g j hj' t;rw[w,e3]at e;rcases Nat.lt_trichotomy (i-σ.length) (j-σ.length)with q|q|q
       ·have:=O _ _ hk hk' q;omega
       ·omega
       ·have:=O _ _ hk' hk q;omega
     ·have M:j<(σ1.take σ.length++L).length:=by rw[<-Q];exact hj'
      have hr:=Z j M hj';have e:(σ1.take σ.length++L)[j]=σ1[jn σ.length js j]:=by
       rcases eh j σ.length with u|u
       ·rw[cM (by simp;omega),List.getElem_take];simp only[c j u]
       ·obtain⟨hk,w⟩:=g j u t;rw[dY (by simp;omega)];have hq:=Y (j-σ.length) hk (by omega);have r:σ1[jn σ.length js j]?=some (L[j-σ.length]'(by omega)):=by rw[w];exact hq
        rw[aN J]at r;injection r with r;rw[r];congr 1;simp[Nat.min_eq_left hn]
      rwa [e]at hr

noncomputable section
structure XS where
 t:TR
 σ:H
 v:Bool
def XS.st(s:XS):St:=⟨s.t.get,s.σ⟩
def yZ(n:Nat):V->V
 | .aC b r=>bif mu b n then .aC b r else .c (.sl r)
 |v=>v
def y8(n:Nat):V->V
 | .agg vs=>.agg (vs.map (yZ n))
 |v=>yZ n v
def y9(n:Nat):V->V
 | .au vs=>.au (vs.map (y8 n))
 |v=>y8 n v
def CZ(n:Nat)(v:V):V.wk v (yZ n v):=by
 cases v<;>simp only[yZ]<;>first|exact .rfl _|skip
 rename_i b r;cases mu b n
 ·exact .aC b r
 ·exact .rfl _
def za{f:V->V}(hf:∀v,V.wk v (f v))(l:List V):(l.map f).length=l.length/\∀j (c:j<l.length) (b:j<(l.map f).length),V.wk l[j] (l.map f)[j]:=
 ⟨List.length_map _,fun j c b=>by rw[eI];exact hf _⟩
def C0(n:Nat)(v:V):V.wk v (y8 n v):=by
 cases v<;>simp only[y8]<;>first|exact CZ n _|skip
 exact .agg (za (CZ n) _).1 (za (CZ n) _).2
def TW(n:Nat)(v:V):V.wk v (y9 n v):=by
 cases v<;>simp only[y9]<;>first|exact C0 n _|skip
 exact .au (za (C0 n) _).1 (za (C0 n) _).2
def pw:Nat->Nat->V->Bool
 |0,_,_=>false
 |d+1,n,v=>match v with
  | .ptr b _=>mu b n
  | .aC b _=>mu b n
  | .mp b=>mu b n
  | .vec b _=>mu b n
  | .fn _ l=>l.all (pw d n)
  | .agg l=>l.all (pw d n)
  | .au l=>l.all (pw d n)
  |_=>true
def vg:∀{d n:Nat} {v:V},pw d n v=true->V.low n v
 |0,_,_,h=>by cases h
 |d+1,n,v,h=>by
  cases v<;>simp only[pw]at h
  case void=>exact .void
  case any=>exact .any
  case c x=>exact .c x
  case ptr b o=>exact .ptr (fv h)
  case aC b r=>exact .aC (fv h)
  case ae r=>exact .ae r
  case fn f l=>exact .fn fun x e=>vg (cW.1 h x e)
  case cu=>exact .cu
  case mp b=>exact .mp (fv h)
  case cN=>exact .cN
  case vec b k=>exact .vec (fv h)
  case agg l=>exact .agg fun x e=>vg (cW.1 h x e)
  case au l=>exact .au fun x e=>vg (cW.1 h x e)
def C1(n:Nat):ad->Bool
 | .cells cs _=>cs.all (pw 4 n)
 |_=>true
def TX{n:Nat}{σ:H}(hl:σ.length=n)(h:σ.all (C1 n)=true):H.ok σ:=by
 intro b c cs tg hc x e;have:=cW.1 h b c;rw[hc]at this;rw[hl];exact vg (cW.1 this x e)
def qG(b size:Nat)(cs:List C):V->V
 | .vec c k=>bif cm c b&&dM (k*size) cs.length then .c (.sl (rowsOf size k cs))else .vec c k
 |v=>v
def zb(b size:Nat)(cs:List C):V->V
 | .agg vs=>.agg (vs.map (qG b size cs))
 | .fn f vs=>.fn f (vs.map (qG b size cs))
 |v=>qG b size cs v
def zd(b size:Nat)(cs:List C):V->V
 | .au vs=>.au (vs.map (zb b size cs))
 |v=>zb b size cs v
def qH(b size:Nat)(cs:List C):ad->ad
 | .cells vs tg=>.cells (vs.map (qG b size cs)) tg
 |x=>x
section
variable {κ:K} {b size:Nat} {cs:List C}
def vh(hf:∀k v,k*size<=cs.length->RV κ (.vec b k) v->RC κ.m (.sl (rowsOf size k cs)) v){x:V}{v:Value}(h:RV κ x v):RV κ (qG b size cs x) v/\(x.leaf=true->(qG b size cs x).leaf=true):=by
 cases x<;>simp only[qG]<;>first|exact⟨h,id⟩|skip
 rename_i c k;cases hc:(cm c b&&dM (k*size) cs.length)
 ·exact⟨h,id⟩
 ·simp only[bM]at hc;have e:=fP hc.1;subst e;exact⟨.c (hf k v (fv hc.2) h),fun _=>rfl⟩
def IQ(hf:∀k v,k*size<=cs.length->RV κ (.vec b k) v->RC κ.m (.sl (rowsOf size k cs)) v){x:V}{v:Value}(h:RV κ x v):RV κ (zb b size cs x) v:=by
 cases x<;>simp only[zb]<;>first|exact(vh hf h).1|skip
 ·cases h with
  |fn h c=>exact .fn (by simpa using h) fun j e=>by rw[eI];exact(vh hf (c j (by simpa using e))).1
 ·cases h with
  |agg h c=>exact .agg (by simpa using h) fun j e=>by rw[eI];exact(vh hf (c j (by simpa using e))).1
def TY(hf:∀k v,k*size<=cs.length->RV κ (.vec b k) v->RC κ.m (.sl (rowsOf size k cs)) v){x:V}{v:Value}(h:RV κ x v):RV κ (zd b size cs x) v:=by
 cases x<;>simp only[zd]<;>first|exact IQ hf h|skip
 cases h with
 |au h c=>exact .au (by simpa using h) fun j e=>by rw[eI];exact IQ hf (c j (by simpa using e))
def aB.qH{w0 w:World}{σ:H}(hf:∀k v,k*size<=cs.length->RV κ (.vec b k) v->RC κ.m (.sl (rowsOf size k cs)) v)(h:aB w0 κ σ w):aB w0 κ (σ.map (Lamb.qH b size cs)) w:=by
 have hl:∀z (u:z<σ.length),(Lamb.qH b size cs σ[z]).bo κ z=(σ[z]).bo κ z:=fun z u=>by
  generalize σ[z]=X;cases X<;>rfl
 refine⟨by simpa using h.n,h.ext,h.mem,fun x A=>?_,fun x y A F g D=>?_,fun l o E=>⟨(h.rest l o E).1,(h.rest l o E).2.1,fun z u=>by rw[eI,hl z (by simpa using u)];exact(h.rest l o E).2.2 z (by simpa using u)⟩,h.dG⟩
 ·have p:x<σ.length:=by simpa using A
  rw[eI];have i:=h.cg x p;generalize σ[x]=X at i⊢;cases X with
  |cells vs tg=>
   obtain⟨us,t,G,k2,k3⟩:=i.row;refine⟨i.fr,⟨us,t,G,by simpa using k2,fun j J=>?_⟩,i.own,i.free,i.ty⟩;rw[eI];have:=k3 j (by simpa using J);exact⟨(vh hf this.2).2 this.1,(vh hf this.2).1⟩
  |spare e s n=>exact i
  |mp L=>exact i
  |vec e s c=>exact i
  |gone=>exact i
 ·have p:x<σ.length:=by simpa using A
  have r:y<σ.length:=by simpa using F
  rw[eI,eI,hl x p,hl y r];exact h.apart x y p r g D
end
def TR.qI(f:V->V):TR->TR
 | .e=>.e
 | .n v l r=>.n (f v) (l.qI f) (r.qI f)
def TR.C2{f:V->V}(hf:f .void= .void):∀(t:TR) (i:Nat),(t.qI f).get i=f (t.get i)
 | .e,i=>hf.symm
 | .n v l r,0=>rfl
 | .n v l r,i+1=>by
   rcases Nat.mod_two_eq_zero_or_one i with hi|hi
   ·rw[TR.qI,TR.qD _ _ _ _ hi,TR.qD _ _ _ _ hi,TR.C2 hf l]
   ·rw[TR.qI,TR.qE _ _ _ _ hi,TR.qE _ _ _ _ hi,TR.C2 hf r]
def fT{α:Type}:TR->(TR->α)->α
 | .e,k=>k .e
 | .n v l r,k=>nU v fun v=>fT l fun l=>fT r fun r=>k (.n v l r)
def C3{α:Type}:∀(t:TR) (k:TR->α),fT t k=k t
 | .e,k=>rfl
 | .n v l r,k=>by simp only[fT,qC,C3 l,C3 r]
def qJ(s:XS)(b:Nat):XS:=match s.σ[b]? with
 |some (.vec _ size cs)=>⟨s.t.qI (zd b size cs),(s.σ.set b .gone).map (qH b size cs),s.v⟩
 |_=>s
def IS{n0:Nat}(s:XS)(b:Nat):aV n0 (qJ s b).st s.st:=by
 unfold qJ;split
 ·rename_i e size cs i;intro w0 κ0 n κ a w p c;obtain⟨κ',g,r,h⟩:=aB.jj c.dk i;refine⟨κ',r.qH h,fun j=>?_,c.size,c.defers,K.le_trans c.le g⟩;show RV κ' ((s.t.qI (zd b size cs)).get j) _;rw[TR.C2 rfl];exact TY h ((c.env j).mono g)
 ·exact aV.refl _ _
def ze:List Nat->XS->XS
 |[],s=>s
 |b::l,s=>ze l (qJ s b)
def IT{n0:Nat}:∀(l:List Nat) (s:XS),aV n0 (ze l s).st s.st
 |[],s=>aV.refl _ _
 |b::l,s=>(IT l (qJ s b)).trans (IS s b)
def vi:Nat->H->List Nat
 |_,[]=>[]
 |i,.vec ..::l=>i::vi (i+1) l
 |i,_::l=>vi (i+1) l
def TZ:V->List Nat
 | .vec b _=>[b]
 | .agg vs=>vs.flatMap fun v=>match v with| .vec b _=>[b]|_=>[]
 |_=>[]
def T0(r:List ak)(n0:Nat)(R:V->H->Prop)(s:St):Prop:=
 ∃vs,aX s r=some vs/\(R (aT vs) s.σ\/∃d b,V.wk (aT vs) d/\V.low n0 d/\n0<=s.σ.length/\H.wk s.σ b/\H.ok (b.take n0)/\R d (b.take n0))
def C4(r:List ak)(n0:Nat)(R:V->H->Prop)(s:St):Prop:=∃t,aV n0 t s/\T0 r n0 R t
def DC.IU{P:Program}{w0:World}{σ:H}{f:FuncId}{fn:Func}{c:Code}{x:AC}{r:List ak}{args:List V}{R:V->H->Prop}(Q:P.follows .mixedOrders=true)(hf:P.funcs[f]?=some fn)(T:fn.body=some c)(U:tr P fn.ntmps c=some x)(X:ko P fn.results.toList=some r)
  (E:args.length<=fn.ntmps) (F:Enters P f) (Y:W P w0 σ.length (C4 r σ.length R) [.code x] ⟨ji args,σ⟩):DC P w0 f args σ R:=by
 refine⟨F,fun κ w vs g j=>?_⟩;refine calls_of_wp hf T ?_;have Z:Rel w0 κ fn.ntmps κ ⟨ji args,σ⟩ {tmps:=vs.toArray++Array.replicate (fn.ntmps-vs.toArray.size) undef,defers:=[]} w:=
  ⟨g,B4 j _,by simp[j.1];omega,rfl,K.le_refl κ⟩
 have p:∀s κ' a w,Rel w0 κ fn.ntmps κ' s a w->C4 r σ.length R s->a.defers=[]/\∃v,(results fn a.tmps).run P w= .ok v w/\∃v' d σ' i,Ending.returned v= .returned v'/\R d σ'/\κ.le i/\aB w0 i σ' w/\RV i d v':=by
  rintro s0 A a w G ⟨s,J,vs,h1,hh⟩;obtain⟨κ',b⟩:=J w0 κ fn.ntmps A a w g.n G;obtain⟨v,N,k2⟩:=B3 b X h1;rcases hh with h|⟨d,τ,h2,h3,h4,O,h6,h7⟩
  ·exact⟨b.defers,v,N,v,_,s.σ,κ',rfl,h,b.le,b.dk,k2⟩
  ·have D:=(b.dk.uJ O).cut σ.length (by rw[O.1];exact h4) h6;exact⟨b.defers,v,N,v,d,τ.take σ.length,κ'.cut σ.length,rfl,h7,K.Br b.le (by rw[g.n];exact aA _),D,(k2.wk h2).cut h3⟩
 refine wp_mono (mE (n0:=σ.length) g.n Q c x U Y Z) ?_;rintro e a w' ⟨s,κ',b,u⟩;cases e with
 |normal=>
  obtain⟨t,hl,hq⟩:=W.BS u;obtain⟨L,M⟩:=hl w0 κ fn.ntmps κ' a w' g.n b;exact p t L a w' M hq
 |ret=>exact p s κ' a w' b u
 |exit id=>obtain⟨k',hp,_⟩:=u;cases hp
 |goto l=>exact u.elim
 |panic ch=>exact u.elim
 |outgrown=>exact u.elim
def T1(x:ah)(ρ:Env)(σ:H):Option (V×H):=some (x.ev ρ,σ)
def T2(c:ah)(a:ah)(b:ah)(ρ:Env)(σ:H):Option (V×H):=match c.ev ρ with
 | .c (.bool t)=>some (if t then a.ev ρ else b.ev ρ,σ)
 |_=>none
def T3(x:ah)(tg:Option TypeId)(ρ:Env)(σ:H):Option (V×H):=if leaves (x.ev ρ).af then some (.ptr σ.length 0,σ++[.cells (x.ev ρ).af tg])else none
def T4(zero:List V)(parts:List (Nat×Nat×ah))(ρ:Env)(σ:H):Option (V×H):=match lC ρ zero parts with
 |some cs=>some (.agg cs,σ)
 |none=>none
def T5(size:Nat)(parts:List ah)(ρ:Env)(σ:H):Option (V×H):=match jF ρ size parts with
 |some rows=>some (.ae rows,σ)
 |none=>none
def T6(x:ah)(ρ:Env)(σ:H):Option (V×H):=match je σ (x.ev ρ)with
 |some (cs,o)=>match cs[o]? with
  |some u=>some (u,σ)
  |none=>none
 |none=>none
def T7(n:Nat)(x:ah)(ρ:Env)(σ:H):Option (V×H):=match je σ (x.ev ρ)with
 |some (cs,o)=>if o+n<=cs.length then some (.agg ((cs.drop o).take n),σ)else none
 |none=>none
def T8(n:Nat)(x:ah)(y:ah)(ρ:Env)(σ:H):Option (V×H):=match x.ev ρ with
 | .ptr b o=>match σ[b]? with
   |some (.cells cs tg)=>if(y.ev ρ).af.length=n/\o+n<=cs.length/\leaves (y.ev ρ).af=true then some (.void,σ.set b (.cells (cs.take o++(y.ev ρ).af++cs.drop (o+n)) tg))else none
   |some (.vec e size cs)=>match fx (y.ev ρ).af with
    |some ys=>if ys.length=n/\o+n<=cs.length then some (.void,σ.set b (.vec e size (cs.take o++ys++cs.drop (o+n))))else none
    |none=>none
   |_=>none
 |_=>none
def T9(x:ah)(ρ:Env)(σ:H):Option (V×H):=match x.ev ρ with
 | .ptr b o=>some (.ptr b o,σ)
 | .c (.ref cs o)=>some (.c (.ref cs o),σ)
 | .fn f caps=>some (.fn f caps,σ)
 |_=>none
def Ua(b:BinOp)(x:ah)(y:ah)(ρ:Env)(σ:H):Option (V×H):=match uh b (x.ev ρ) (y.ev ρ)with
 |some v=>some (v,σ)
 |none=>none
def Ub(b:Bool)(x:ah)(y:ah)(ρ:Env)(σ:H):Option (V×H):=match x.ev ρ,y.ev ρ with
 | .c (.bool p),.c (.bool q)=>some (.c (.bool (if b then !(p==q)else p==q)),σ)
 |_,_=>none
def Uc(b:Bool)(k:Nat)(x:ah)(ρ:Env)(σ:H):Option (V×H):=match(x.ev ρ).isNil k with
 |some p=>some (.c (.bool (if b then !p else p)),σ)
 |none=>none
def Ud(b:Bool)(e:List Nat)(x:ah)(y:ah)(ρ:Env)(σ:H):Option (V×H):=match x.ev ρ,y.ev ρ with
 | .agg xs,.agg ys=>match lD e xs ys with
   |some p=>some (.c (.bool (if b then !p else p)),σ)
   |none=>none
 |_,_=>none
def Ue(e:UnOp)(x:ah)(ρ:Env)(σ:H):Option (V×H):=match e,x.ev ρ with
 | .not,.c (.bool b)=>some (.c (.bool (!b)),σ)
 | .neg,.c (.int k n)=>some (.c (.int k (k.wrap (0-n))),σ)
 |_,_=>none
def Uf(k:IntKind)(x:ah)(ρ:Env)(σ:H):Option (V×H):=match x.ev ρ with
 | .c (.int _ n)=>some (.c (.int k (k.wrap n)),σ)
 |_=>none
def Ug(f:FuncId)(caps:List ah)(ρ:Env)(σ:H):Option (V×H):=some (.fn f (caps.map (·.ev ρ)),σ)
def Uh(x:ah)(ρ:Env)(σ:H):Option (V×H):=match x.ev ρ with
 | .c (.str l)=>some (.c (.str l),σ)
 |_=>none
def Ui(x:ah)(ρ:Env)(σ:H):Option (V×H):=match(x.ev ρ).rows with
 |some r=>match o8 r with
  |some l=>some (.c (.str l),σ)
  |none=>none
 |none=>none
def Uj(x:ah)(b:Option ah)(e:Option ah)(ρ:Env)(σ:H):Option (V×H):=match x.ev ρ with
 | .c (.str l)=>match ia ρ l.length e with
   |some h=>match ka ρ h b with
    |some a=>some (.c (.str ((l.drop a).take (h-a))),σ)
    |none=>none
   |none=>none
 |_=>none
def Uk(size:Nat)(x:ah)(e:Option ah)(g:Option ah)(i:Option ah)(ρ:Env)(σ:H):Option (V×H):=match(x.ev ρ).sub e i with
 |some (b,k)=>match ia ρ k g with
  |some h=>some (.vec b h,σ)
  |none=>none
 |none=>match(x.ev ρ).rows with
 |some r=>if∀cs∈r,cs.length=size then match ia ρ r.length g with
  |some h=>match ka ρ h e with
   |some a=>match i with
    |none=>some (.c (.sl ((r.drop a).take (h-a))),σ)
    |some m=>match ia ρ r.length (some m)with
     |some j=>if j=h then some (.ae ((r.drop a).take (h-a)),σ)else none
     |none=>none
   |none=>none
  |none=>none else none
 |none=>none
def Ul(off:Nat)(x:ah)(ρ:Env)(σ:H):Option (V×H):=match x.ev ρ with
 | .ptr b o=>some (.ptr b (o+off),σ)
 | .c (.ref cs o)=>some (.c (.ref cs (o+off)),σ)
 |_=>none
def Um(off:Nat)(x:ah)(ρ:Env)(σ:H):Option (V×H):=match x.ev ρ with
 | .agg vs=>match vs[off]? with
   |some u=>some (u,σ)
   |none=>none
 |_=>none
def Un(off:Nat)(n:Nat)(x:ah)(ρ:Env)(σ:H):Option (V×H):=match x.ev ρ with
 | .agg vs=>if off+n<=vs.length then some (.agg ((vs.drop off).take n),σ)else none
 |_=>none
def Uo(size:Nat)(x:ah)(i:ah)(ρ:Env)(σ:H):Option (V×H):=match i.ev ρ with
 | .c (.int _ j)=>match x.ev ρ with
   | .vec b k=>if 0<=j/\j<k then some (.ptr b (j.toNat*size),σ)else none
   |u=>match u.rows with
    |some r=>if 0<=j/\j<r.length then match r[j.toNat]? with
      |some cs=>if cs.length=size then some (.c (.ref cs 0),σ)else none
      |none=>none
     else none
    |none=>none
 |_=>none
def Up(x:ah)(i:ah)(ρ:Env)(σ:H):Option (V×H):=match x.ev ρ,i.ev ρ with
 | .c (.str l),.c (.int _ j)=>if 0<=j/\j<l.length then match l[j.toNat]? with
    |some b=>some (.c (.int .u8 b.toNat),σ)
    |none=>none
   else none
 |_,_=>none
def Uq(x:ah)(i:Nat)(ρ:Env)(σ:H):Option (V×H):=match x.ev ρ with
 | .au vs=>match vs[i]? with
   |some u=>some (u,σ)
   |none=>none
 |_=>none
def Ur(x:ah)(ρ:Env)(σ:H):Option (V×H):=match x.ev ρ with
 | .c (.str l)=>some (.c (.int .i64 l.length),σ)
 |_=>none
def Us(x:ah)(ρ:Env)(σ:H):Option (V×H):=match x.ev ρ with
 | .vec _ k=>some (.c (.int .i64 k),σ)
 |u=>match u.rows with
  |some r=>some (.c (.int .i64 r.length),σ)
  |none=>none
def Ut(e:TypeId)(size:Nat)(bytes:Nat)(x:ah)(y:ah)(ρ:Env)(σ:H):Option (V×H):=match(y.ev ρ).rows with
 |some news=>mA e size bytes (x.ev ρ) news σ
 |none=>none
def Uu(e:TypeId)(bytes:Nat)(x:ah)(y:ah)(ρ:Env)(σ:H):Option (V×H):=match y.ev ρ with
 | .c (.str l)=>mA e 1 bytes (x.ev ρ) (nI l) σ
 |_=>none
def Uv(x:ah)(y:ah)(ρ:Env)(σ:H):Option (V×H):=match x.ev ρ,y.ev ρ with
 | .c (.int k a),.c (.int _ b)=>some (.c (.int k (if b>a then b else a)),σ)
 |_,_=>none
def Uw(x:ah)(y:ah)(ρ:Env)(σ:H):Option (V×H):=match x.ev ρ,y.ev ρ with
 | .c (.int k a),.c (.int _ b)=>some (.c (.int k (if b<a then b else a)),σ)
 |_,_=>none
def Ux(_:Bool)(_:ah)(ρ:Env)(σ:H):Option (V×H):=none
def Uy(e:TypeId)(bytes:Nat)(z:C)(x:ah)(ρ:Env)(σ:H):Option (V×H):=match x.ev ρ with
 | .c (.int _ n)=>if 0<=n/\bytes*n<=140737488355328/\n<=140737488355328 then some (.vec σ.length n.toNat,σ++[.vec e 1 (List.replicate n.toNat z)])else none
 |_=>none
def Uz(ρ:Env)(σ:H):Option (V×H):=some (.mp σ.length,σ++[.mp []])
def UA(ok:Bool)(q:KD)(z:C)(x:ah)(k:ah)(ρ:Env)(σ:H):Option (V×H):=match x.ev ρ,k.ev ρ with
 | .mp b,.c g=>match σ[b]? with
   |some (.mp e)=>if q.ok g=true/\(e.all fun p=>q.ok p.1)=true then some (o5 ok z (ja g e),σ)else none
   |_=>none
 |_,_=>none
def UB(q:KD)(x:ah)(k:ah)(y:ah)(ρ:Env)(σ:H):Option (V×H):=match x.ev ρ,k.ev ρ,(y.ev ρ).gE with
 | .mp b,.c g,some h=>match σ[b]? with
   |some (.mp e)=>if q.ok g=true/\(e.all fun p=>q.ok p.1)=true then some (.void,σ.set b (.mp (jb g h e)))else none
   |_=>none
 |_,_,_=>none
def UC(x:ah)(ρ:Env)(σ:H):Option (V×H):=match x.ev ρ with
 | .mp b=>match σ[b]? with
   |some (.mp e)=>some (.c (.int .i64 e.length),σ)
   |_=>none
 |_=>none
def UD(_:ah)(_:List ah)(ρ:Env)(σ:H):Option (V×H):=none
def UE(ρ:Env)(σ:H):Option (V×H):=none
def zf(i:bB):Env->H->Option (V×H):=match i with
 | .jc a0=>T1 a0
 | .pick a0 b c=>T2 a0 b c
 | .box a0 b=>T3 a0 b
 | .build a0 b=>T4 a0 b
 | .o6 a0 b=>T5 a0 b
 | .my a0=>T6 a0
 | .ez a0 b=>T7 a0 b
 | .store a0 b c=>T8 a0 b c
 | .iD a0=>T9 a0
 | .bin a0 b c=>Ua a0 b c
 | .qb a0 b c=>Ub a0 b c
 | .lz a0 b c=>Uc a0 b c
 | .eqs a0 b c a3=>Ud a0 b c a3
 | .un a0 b=>Ue a0 b
 | .conv a0 b=>Uf a0 b
 | .gZ a0 b=>Ug a0 b
 | .rY a0=>Uh a0
 | .uf a0=>Ui a0
 | .lA a0 b c=>Uj a0 b c
 | .gk a0 b c a3 a4=>Uk a0 b c a3 a4
 | .o7 a0 b=>Ul a0 b
 | .j0 a0 b=>Um a0 b
 | .ug a0 b c=>Un a0 b c
 | .dm a0 b c=>Uo a0 b c
 | .index a0 b=>Up a0 b
 | .ext a0 b=>Uq a0 b
 | .lens a0=>Ur a0
 | .eM a0=>Us a0
 | .app a0 b c a3 a4=>Ut a0 b c a3 a4
 | .mz a0 b c a3=>Uu a0 b c a3
 | .mx a0 b=>Uv a0 b
 | .mn a0 b=>Uw a0 b
 | .jd a0 b=>Ux a0 b
 | .lB=>Uz
 | .kP a0 b c a3=>Uy a0 b c a3
 | .look a0 b c a3 a4=>UA a0 b c a3 a4
 | .kQ a0 b c a3=>UB a0 b c a3
 | .qc a0=>UC a0
 | .call a0 b=>UD a0 b
 | .bad=>UE
def zh(ρ:Env)(σ:H)(i:bB):zf i ρ σ=step ρ σ i:=by cases i<;>rfl
section
variable {α:Type}
def bB.C5:bB->Bool
 | .jc _| .pick ..| .my _| .iD _| .j0 ..| .ext ..| .rY _=>true
 |_=>false
def bB.callParts:bB->Option (ah×List ah)
 | .call f l=>some (f,l)
 |_=>none
def zi{i:bB}{f:ah}{l:List ah}(h:i.callParts=some (f,l)):i= .call f l:=by
 cases i<;>first|(cases h;done)|(injection h with h;injection h with b c;subst b c;rfl)
def vj(ρ:Env)(σ:H)(i:bB):Option (V×H):=match i with
 | .app e size bytes x y=>match x.ev ρ with
   | .ae olds=>match(y.ev ρ).rows with
     |some news=>bif !news.isEmpty&&((olds.all fun r=>cm r.length size)&&((news.all fun r=>cm r.length size)&&(dM ((olds.length+news.length)*bytes) 140737488355328&&dM (olds.length+news.length) 140737488355328)))
       then some (.vec σ.length (olds.length+news.length),σ++[.vec e size (olds++news).flatten])else none
     |none=>none
   |_=>none
 |_=>none
def IV{ρ:Env}{σ:H}{i:bB}{v:V}{σ':H}(h:vj ρ σ i=some (v,σ')):∃e size bytes x y olds news,i= .app e size bytes x y/\x.ev ρ= .ae olds/\(y.ev ρ).rows=some news/\
  (news≠[]/\(∀r∈olds,r.length=size)/\(∀r∈news,r.length=size)/\(olds.length+news.length)*bytes<=140737488355328/\olds.length+news.length<=140737488355328)/\v= .vec σ.length (olds.length+news.length)/\σ'=σ++[.vec e size (olds++news).flatten]:=by
 unfold vj at h;split at h
 ·rename_i e size bytes x y;split at h
  ·rename_i olds c;split at h
   ·rename_i news g;cases hc:(!news.isEmpty&&((olds.all fun r=>cm r.length size)&&((news.all fun r=>cm r.length size)&&(dM ((olds.length+news.length)*bytes) 140737488355328&&dM (olds.length+news.length) 140737488355328))))with
    |false=>rw[hc]at h;cases h
    |true=>
     rw[hc]at h;injection h with h;injection h with j p;simp only[bM,cW]at hc;obtain⟨c1,t,c3,c4,c5⟩:=hc;exact⟨e,size,bytes,x,y,olds,news,rfl,c,g,⟨(by intro hn;subst hn;cases c1),fun r b=>fP (t r b),fun r b=>fP (c3 r b),fv c4,fv c5⟩,j.symm,p.symm⟩
   ·cases h
  ·cases h
 ·cases h
def C6(q e:Bool)(j:Nat)(v:V)(σ σ':H)(k:V->H->Option α):Option α:=
 cond q (cond e (nT v fun v=>k v σ) (nU v fun v=>k v σ)) (nU v fun v=>IE σ' j fun σ'=>k v σ')
def zj:V->Option Nat
 | .ptr b _=>some b
 | .aC b _=>some b
 | .mp b=>some b
 |_=>none
def bB.turns(ρ:Env)(σ:H):bB->Nat
 | .store _ x _=>(zj (x.ev ρ)).getD σ.length
 | .kQ _ x _ _=>(zj (x.ev ρ)).getD σ.length
 | .app _ _ _ x _=>(zj (x.ev ρ)).getD σ.length
 | .mz _ _ x _=>(zj (x.ev ρ)).getD σ.length
 |_=>σ.length
def qK(ρ:Env)(σ:H)(i:bB)(k:V->H->Option α):Option α:=
 match zf i ρ σ with
 |none=>none
 |some p=>match p with
  |(v,σ')=>C6 i.quiet i.C5 (i.turns ρ σ) v σ σ' k
def zk{ρ:Env}{σ:H}{i:bB}{k:V->H->Option α}{b:α}(h:qK ρ σ i k=some b):∃v σ',step ρ σ i=some (v,σ')/\k v σ'=some b:=by
 unfold qK at h;rw[zh]at h;cases c:step ρ σ i with
 |none=>rw[c]at h;cases h
 |some p=>
  obtain⟨v,σ'⟩:=p;rw[c]at h;refine⟨v,σ',rfl,?_⟩;simp only at h;unfold C6 at h;cases e:i.quiet
  ·simp only[e,cond_false,qC,IF]at h;exact h
  ·rw[quiet_step e c];simp only[e,cond_true]at h;cases g:i.C5
   ·simp only[g,cond_false,qC]at h;exact h
   ·simp only[g,cond_true,yO]at h;exact h
def jo(t:TR)(d:Option Nat)(v:V)(k:TR->Option α):Option α:=match d with
 |none=>k t
 |some d=>t.pt d v k
def ku{t:TR}{d:Option Nat}{v:V}{k:TR->Option α}{b:α}(h:jo t d v k=some b):∃c:TR,k c=some b/\c.get=Env.put t.get d v:=by
 cases d with
 |none=>exact⟨t,h,rfl⟩
 |some d=>
  obtain⟨c,e,g⟩:=TR.yR h;exact⟨c,e,funext fun j=>g j⟩
def zl(ρ:Env)(l:List ah):(List V->Option α)->Option α:=List.rec (motive:=fun _=>(List V->Option α)->Option α) (fun k=>k []) (fun o _ b k=>nT (o.ev ρ) fun v=>b fun r=>k (v::r)) l
def UF(ρ:Env)(o:ah)(l:List ah)(k:List V->Option α):zl ρ (o::l) k=nT (o.ev ρ) fun v=>zl ρ l fun r=>k (v::r):=rfl
def IW(ρ:Env):∀(l:List ah) (k:List V->Option α),zl ρ l k=k (l.map (·.ev ρ))
 |[],k=>rfl
 |o::l,k=>by simp only[UF,yO,IW ρ l,ck]
def IX:V->Option (FuncId×List V)
 | .fn f l=>some (f,l)
 |_=>none
def UG{v:V}{f:FuncId}{l:List V}(h:IX v=some (f,l)):v= .fn f l:=by
 cases v<;>first|(cases h;done)|(injection h with h;injection h with b c;subst b c;rfl)
end
abbrev dB:=FuncId->List V->H->Option (V×H)
def dB.Ok(P:Program)(w0:World)(call:dB):Prop:=∀f args σ v σ',call f args σ=some (v,σ')->DC P w0 f args σ (Same v σ')
section
variable {α:Type} {P:Program} {w0:World} {call:dB}
def sO(call:dB)(ρ:Env)(σ:H)(f:ah)(l:List ah)(k:FuncId->List V->V->H->Option α):Option α:=match IX (f.ev ρ)with
 |none=>none
 |some p=>match p with
  |(b,caps)=>zl ρ l fun l=>match call b (l++caps) σ with
   |none=>none
   |some p=>match p with
    |(v,σ')=>k b (l++caps) v σ'
def zm{ρ:Env}{σ:H}{f:ah}{l:List ah}{k:FuncId->List V->V->H->Option α}{b:α}(h:sO call ρ σ f l k=some b):∃c caps v σ',f.ev ρ= .fn c caps/\call c (l.map (·.ev ρ)++caps) σ=some (v,σ')/\k c (l.map (·.ev ρ)++caps) v σ'=some b:=by
 unfold sO at h;split at h
 ·cases h
 ·rename_i p hp;obtain⟨c,caps⟩:=p;simp only[IW]at h;split at h
  ·cases h
  ·rename_i p hc;obtain⟨v,σ'⟩:=p;exact⟨c,caps,v,σ',UG hp,hc,h⟩
def IY(call:dB)(σ:H)(o:ai)(b:TR->(TR->Option α)->Option α)(t:TR)(k:TR->Option α)(f:ah)(l:List ah):Option α:=
 sO call t.get σ f l fun _ _ v σ'=>cond (kZ σ' σ) (jo t o.dst v fun t=>b t k) none
def IZ(σ:H)(o:ai)(b:TR->(TR->Option α)->Option α)(t:TR)(k:TR->Option α):Option α:=
 cond o.ins.quiet (qK t.get σ o.ins fun v _=>jo t o.dst v fun t=>b t k) none
def I0(call:dB)(σ:H)(o:ai)(b:TR->(TR->Option α)->Option α)(t:TR)(k:TR->Option α):Option α:=match o.ins.callParts with
 |none=>IZ σ o b t k
 |some p=>match p with
  |(f,l)=>IY call σ o b t k f l
def C7(call:dB)(σ:H)(o:ai)(c:TR->(TR->Option α)->Option α)(t:TR)(k:TR->Option α):Option α:=match bQ t.get o.guard with
 |none=>none
 |some b=>match b with
  |false=>jo t o.dst .void fun t=>c t k
  |true=>I0 call σ o c t k
def zo(call:dB)(σ:H)(l:List ai):TR->(TR->Option α)->Option α:=List.rec (motive:=fun _=>TR->(TR->Option α)->Option α) (fun t k=>k t) (fun o _ b=>C7 call σ o b) l
def UH(σ:H)(o:ai)(l:List ai)(t:TR)(k:TR->Option α):zo call σ (o::l) t k=C7 call σ o (zo call σ l) t k:=rfl
def zp(hc:dB.Ok P w0 call){σ:H}{b:α}:∀{l:List ai} {t:TR} {k:TR->Option α},zo call σ l t k=some b->∃c,k c=some b/\Canon P w0 σ l t.get c.get
 |[],t,k,h=>⟨t,h,.nil⟩
 |o::l,t,k,h=>by
  rw[UH]at h;unfold C7 at h;split at h
  ·cases h
  ·rename_i F hg;cases F with
   |false=>
    obtain⟨t1,g,i⟩:=ku h;obtain⟨c,j,r⟩:=zp hc g;refine⟨c,j,.cons (.skip hg) ?_⟩;rw[<-i];exact r
   |true=>
    simp only at h;unfold I0 at h;split at h
    ·unfold IZ at h;cases w:o.ins.quiet with
     |false=>rw[w]at h;cases h
     |true=>
      rw[w]at h;simp only[cond_true]at h;obtain⟨v,σ',h0,A⟩:=zk h;have:=quiet_step w h0;subst this;obtain⟨t1,g,i⟩:=ku A;obtain⟨c,j,r⟩:=zp hc g;refine⟨c,j,.cons (.step hg h0) ?_⟩;rw[<-i];exact r
    ·rename_i p hp;obtain⟨f,L⟩:=p;have G:=zi hp;simp only at h;unfold IY at h;obtain⟨J,caps,v,σ',hf,D,u⟩:=zm h;cases E:kZ σ' σ with
     |false=>rw[E]at u;cases u
     |true=>
      rw[E]at u;simp only[cond_true]at u;have e:=qB E;subst e;obtain⟨t1,g,i⟩:=ku u;obtain⟨c,j,r⟩:=zp hc g;refine⟨c,j,.cons (.call hg G hf (hc _ _ _ _ _ D)) ?_⟩;rw[<-i];exact r
def vk(ρ:Env)(i:bB)(v:V):List H->Bool
 |[]=>true
 |τ::l=>match zf i ρ τ with
  |none=>false
  |some (u,b)=>gL u v&&(kZ b τ&&vk ρ i v l)
def I1{ρ:Env}{i:bB}{v:V}:∀{l:List H},vk ρ i v l=true->∀c∈l,step ρ c i=some (v,c)
 |[],_,c,b=>by cases b
 |x::l,h,c,b=>by
  unfold vk at h;rw[zh]at h;split at h
  ·cases h
  ·rename_i u e g;simp only[bM]at h;rcases cD.1 b with rfl|b
   ·rw[g,yH h.1,qB h.2.1]
   ·exact I1 h.2.2 c b
def vl(call:dB)(f:FuncId)(args:List V)(v:V):List H->Bool
 |[]=>true
 |τ::l=>match call f args τ with
  |none=>false
  |some (u,b)=>gL u v&&(kZ b τ&&vl call f args v l)
def I2{f:FuncId}{args:List V}{v:V}:∀{l:List H},vl call f args v l=true->∀c∈l,call f args c=some (v,c)
 |[],_,c,b=>by cases b
 |x::l,h,c,b=>by
  unfold vl at h;split at h
  ·cases h
  ·rename_i u e g;simp only[bM]at h;rcases cD.1 b with rfl|b
   ·rw[g,yH h.1,qB h.2.1]
   ·exact I2 h.2.2 c b
abbrev sQ(α:Type):=TR->H->List H->(TR->H->Option α)->Option α
def I3(c:Bool)(o:ai)(b:sQ α)(t:TR)(σ:H)(past:List H)(k:TR->H->Option α):Option α:=match cond c (vj t.get σ o.ins) none with
 |none=>qK t.get σ o.ins fun v σ'=>jo t o.dst v fun t=>b t σ' (σ::past) k
 |some p=>match p with
  |(v,σ')=>nU v fun v=>fH σ' fun σ'=>jo t o.dst v fun t=>b t σ' (σ::past) k
def I4(c:Bool)(call:dB)(o:ai)(b:sQ α)(t:TR)(σ:H)(past:List H)(k:TR->H->Option α):Option α:=match o.ins.callParts with
 |none=>I3 c o b t σ past k
 |some p=>match p with
  |(f,l)=>sO call t.get σ f l fun _ _ v σ'=>jo t o.dst v fun t=>b t σ' (σ::past) k
def I5(call:dB)(o:ai)(c:Nat)(e:sQ α)(t:TR)(σ:H)(past:List H)(k:TR->H->Option α):Option α:=match o.ins.callParts with
 |none=>cond o.ins.quiet (qK t.get σ o.ins fun v _=>cond (o.ins.pure||vk t.get o.ins v (past.take (past.length-c))) (jo t o.dst v fun t=>e t σ past k) none) none
 |some p=>match p with
  |(f,l)=>sO call t.get σ f l fun b args v σ'=>cond (kZ σ' σ&&vl call b args v (past.take (past.length-c))) (jo t o.dst v fun t=>e t σ past k) none
def C8(g:Bool)(call:dB)(e:cE)(c:sQ α)(t:TR)(σ:H)(past:List H)(k:TR->H->Option α):Option α:=match e with
 |⟨o,bL,h⟩=>match bQ t.get o.guard with
  |none=>none
  |some b=>match b with
   |false=>jo t o.dst .void fun t=>c t σ (cond bL (σ::past) past) k
   |true=>cond bL (I4 g call o c t σ past k) (I5 call o h c t σ past k)
def zq(b:Bool)(call:dB)(l:List cE):sQ α:=List.rec (motive:=fun _=>sQ α) (fun t σ _ k=>k t σ) (fun e _ c=>C8 b call e c) l
def UI(b:Bool)(e:cE)(l:List cE)(t:TR)(σ:H)(past:List H)(k:TR->H->Option α):zq b call (e::l) t σ past k=C8 b call e (zq b call l) t σ past k:=rfl
def qL(A:Bool)(hc:dB.Ok P w0 call){b:α}:∀{l:List cE} {t:TR} {σ:H} {past:List H} {k:TR->H->Option α},zq A call l t σ past k=some b->∃i σ' c,k i σ'=some b/\ab P w0 l t.get σ past i.get σ' c
 |[],t,σ,past,k,h=>⟨t,σ,past,h,.nil⟩
 |⟨o,bL,N⟩::l,t,σ,past,k,h=>by
  rw[UI]at h;unfold C8 at h;simp only at h;split at h
  ·cases h
  ·rename_i Q hg;cases Q with
   |false=>
    simp only at h;obtain⟨t1,r,u⟩:=ku h;obtain⟨i,σ',c,w,j⟩:=qL A hc r;refine⟨i,σ',c,w,?_⟩;rw[u]at j;cases bL
    ·exact .quiet (.skip hg) (fun J _=>.skip hg) j
    ·exact .bL (.skip hg) j
   |true=>
    cases bL with
    |true=>
     simp only[cond_true]at h;unfold I4 at h;split at h
     ·unfold I3 at h;split at h
      ·obtain⟨v,σ',h0,g⟩:=zk h;obtain⟨t1,r,u⟩:=ku g;obtain⟨i,σ1,c,w,j⟩:=qL A hc r;refine⟨i,σ1,c,w,.bL (.step hg h0) ?_⟩;rw[<-u];exact j
      ·rename_i p hp;obtain⟨v,σ'⟩:=p;have hp:vj t.get σ o.ins=some (v,σ'):=by
        cases A with
        |false=>cases hp
        |true=>exact hp
       obtain⟨e,size,bytes,x,y,olds,news,R,T,U,X,Y,Z⟩:=IV hp;subst Y Z;simp only[qC,yQ]at h;obtain⟨t1,r,u⟩:=ku h;obtain⟨i,σ1,c,w,j⟩:=qL A hc r;refine⟨i,σ1,c,w,.bL (.vec hg R T U X) ?_⟩;rw[<-u];exact j
     ·rename_i p hp;obtain⟨f,O⟩:=p;have L:=zi hp;simp only at h;obtain⟨G,caps,v,σ',hf,D,E⟩:=zm h;obtain⟨t1,r,u⟩:=ku E;obtain⟨i,σ1,c,w,j⟩:=qL A hc r;refine⟨i,σ1,c,w,.bL (.call hg L hf (hc _ _ _ _ _ D)) ?_⟩;rw[<-u];exact j
    |false=>
     simp only[cond_false]at h;unfold I5 at h;split at h
     ·cases M:o.ins.quiet with
      |false=>rw[M]at h;cases h
      |true=>
       rw[M]at h;simp only[cond_true]at h;obtain⟨v,σ',h0,g⟩:=zk h;have:=quiet_step M h0;subst this;cases he:(o.ins.pure||vk t.get o.ins v (past.take (past.length-N)))with
       |false=>rw[he]at g;cases g
       |true=>
        rw[he]at g;simp only[cond_true]at g;obtain⟨t1,r,u⟩:=ku g;obtain⟨i,σ1,c,w,j⟩:=qL A hc r;refine⟨i,σ1,c,w,.quiet (.step hg h0) (fun J F=>?_) ?_⟩
        ·simp only[Bool.or_eq_true]at he;rcases he with he|he
         ·exact .step hg (Sq he h0)
         ·exact .step hg (I1 he J F)
        ·rw[<-u];exact j
     ·rename_i p hp;obtain⟨f,O⟩:=p;have L:=zi hp;simp only at h;obtain⟨G,caps,v,σ',hf,D,E⟩:=zm h;cases he:(kZ σ' σ&&vl call G (O.map (·.ev t.get)++caps) v (past.take (past.length-N)))with
      |false=>rw[he]at E;cases E
      |true=>
       rw[he]at E;simp only[cond_true]at E;simp only[bM]at he;have e:=qB he.1;subst e;obtain⟨t1,r,u⟩:=ku E;obtain⟨i,σ1,c,w,j⟩:=qL A hc r;refine⟨i,σ1,c,w,.quiet (.call hg L hf (hc _ _ _ _ _ D)) (fun J F=>.call hg L hf (hc _ _ _ _ _ (I2 he.2 J F))) ?_⟩;rw[<-u];exact j
end
def C9:List ai->Bool
 |[]=>true
 |o::l=>(match o.ins with| .call ..=>true|i=>i.quiet)&&C9 l
structure CE where
 x:AC
 r:List ak
 n:Nat
 d:Nat
inductive CT where
 |e
 |n (f:FuncId) (c:CE) (l r:CT)
def CT.get(t:CT)(f:FuncId):Option CE:=CT.rec (motive:=fun _=>Option CE) none (fun g c _ _ b e=>cond (cm f g) (some c) (cond (mu f g) b e)) t
def I6(P:Program)(f:FuncId)(c:CE):Prop:=∃fn,aq P f c.n fn c.x c.r
def CT.Ok(P:Program):CT->Prop
 | .e=>True
 | .n f c l r=>I6 P f c/\CT.Ok P l/\CT.Ok P r
def CT.Da{P:Program}{f:FuncId}{c:CE}:∀{t:CT},CT.Ok P t->t.get f=some c->I6 P f c
 | .e,_,h=>by cases h
 | .n g p l r,i,h=>by
   have b:cond (cm f g) (some p) (cond (mu f g) (l.get f) (r.get f))=some c:=h;cases j:cm f g with
   |true=>
    rw[j]at b;injection b with b;subst b;have:=fP j;subst this;exact i.1
   |false=>
    rw[j]at b;cases hl:mu f g with
    |true=>rw[hl]at b;exact CT.Da i.2.1 b
    |false=>rw[hl]at b;exact CT.Da i.2.2 b
structure XP where
 P:Program
 ext:dB
 code:CT
 gB:FuncId->Bool
 vec:FuncId->Bool
structure XP.Ok (X:XP) (w0:World):Prop where
 ext:dB.Ok X.P w0 X.ext
 code:CT.Ok X.P X.code
def zr(i:Nat)(l:List V):TR->(TR->Option XS)->Option XS:=List.rec (motive:=fun _=>Nat->TR->(TR->Option XS)->Option XS) (fun _ t k=>k t) (fun v _ b i t k=>t.pt i v fun t=>b (Nat.succ i) t k) l i
def UJ(i:Nat)(v:V)(l:List V)(t:TR)(k:TR->Option XS):zr i (v::l) t k=t.pt i v fun t=>zr (i+1) l t k:=rfl
def I7(r:List ak)(n0:Nat)(gB:Bool)(s:XS)(vs:List V):Option (V×H):=
 cond gB (sM (aT vs) fun d=>some (d,s.σ))
  (sM (y9 n0 (aT vs)) fun d=>fS (s.σ.take n0) fun b=>cond (pw 5 n0 d&&(dM n0 s.σ.length&&b.all (C1 n0))) (some (d,b)) (sM (aT vs) fun d=>some (d,s.σ)))
def Db(gB:Bool)(r:List ak)(n0:Nat)(b:XS):Option (V×H):=match ze (cond gB [] (vi n0 (b.σ.drop n0))) b with
 |s=>match aX s.st r with
  |none=>none
  |some vs=>I7 r n0 gB s vs
def Dc(gB:Bool)(n0:Nat)(r:Option (V×H)):Option (V×H):=cond gB (match r with
 |none=>none
 |some p=>match p with
  |(d,σ)=>match CY n0 d σ with
   |none=>some (d,σ)
   |some q=>match q with
    |(d,b)=>sM d fun d=>fH b fun b=>some (d,b)) r
def UK{P:Program}{w0:World}{f:FuncId}{args:List V}{σ:H}{gB:Bool}{r:Option (V×H)}(b:∀d σ',r=some (d,σ')->DC P w0 f args σ (Same d σ')){v:V}{σ':H}(h:Dc gB σ.length r=some (v,σ')):DC P w0 f args σ (Same v σ'):=by
 unfold Dc at h;cases gB with
 |false=>exact b _ _ h
 |true=>
  simp only[cond_true]at h;split at h
  ·cases h
  ·rename_i p;obtain⟨d,σ1⟩:=p;simp only at h;split at h
   ·injection h with h;injection h with c e;subst c e;exact b _ _ rfl
   ·rename_i q g;obtain⟨i,j⟩:=q;simp only[IC,yQ]at h;injection h with h;injection h with c e;subst c e;exact TV (b _ _ rfl) g
def I8(X:XP)(b:List It->XS->Option XS)(f:FuncId)(c:CE)(args:List V)(σ:H):Option (V×H):=
 cond (cm args.length c.n) (match zr 0 args (TR.full c.d) fun t=>fB (X.vec f) fun v=>b [.code c.x] ⟨t,σ,v⟩with
  |none=>none
  |some s=>Dc (X.gB f) σ.length (Db (X.gB f) c.r σ.length s)) none
def qM(X:XP)(b:List It->XS->Option XS):dB:=fun f args σ=>match X.ext f args σ with
 |some r=>some r
 |none=>match X.code.get f with
  |none=>none
  |some c=>I8 X b f c args σ
def bB.UL:bB->List Nat
 | .app _ _ _ x y=>y.tmps++x.tmps
 |i=>i.looks
def I9(c:List It->XS->Option XS)(o:ai)(l:List ai)(k:List It)(s:XS):Option XS:=match o.ins.UL.flatMap fun d=>TZ (s.t.get d)with
 |[]=>none
 |b::_=>match qJ s b with
  |s'=>fT s'.t fun t=>fH s'.σ fun σ=>c (.ops (o::l)::k) ⟨t,σ,s.v⟩
def zt(b:List It->XS->Option XS)(o:ai)(l:List ai)(k:List It)(s:XS):Option XS:=match zf o.ins s.t.get s.σ with
 |none=>I9 b o l k s
 |some p=>match p with
  |(v,σ')=>C6 o.ins.quiet o.ins.C5 (o.ins.turns s.t.get s.σ) v s.σ σ' fun v σ'=>jo s.t o.dst v fun t=>fB s.v fun v=>b (.ops l::k) ⟨t,σ',v⟩
def Ja(b:List It->XS->Option XS)(o:ai)(l:List ai)(k:List It)(s:XS):Option XS:=match vj s.t.get s.σ o.ins with
 |none=>zt b o l k s
 |some p=>match p with
  |(v,σ')=>nU v fun v=>fH σ' fun σ'=>jo s.t o.dst v fun t=>fB s.v fun v=>b (.ops l::k) ⟨t,σ',v⟩
def Dd(X:XP)(b:List It->XS->Option XS)(o:ai)(l:List ai)(k:List It)(s:XS):Option XS:=match o.ins.callParts with
 |none=>cond s.v (Ja b o l k s) (zt b o l k s)
 |some p=>match p with
  |(f,c)=>sO (qM X b) s.t.get s.σ f c fun _ _ v σ'=>jo s.t o.dst v fun t=>fB s.v fun v=>b (.ops l::k) ⟨t,σ',v⟩
def De(X:XP)(c:List It->XS->Option XS)(o:ai)(l:List ai)(k:List It)(s:XS):Option XS:=match bQ s.t.get o.guard with
 |none=>none
 |some b=>match b with
  |false=>jo s.t o.dst .void fun t=>fB s.v fun v=>c (.ops l::k) ⟨t,s.σ,v⟩
  |true=>Dd X c o l k s
def Df(X:XP)(b:List It->XS->Option XS)(l:List ai)(k:List It)(s:XS):Option XS:=match l with
 |[]=>b k s
 |o::l=>De X b o l k s
def Jb:V->Option Bool
 | .c x=>match x with
   | .bool b=>some b
   |_=>none
 |_=>none
def UM{v:V}{b:Bool}(h:Jb v=some b):v= .c (.bool b):=by
 cases v<;>first|(cases h;done)|skip
 rename_i x;cases x<;>first|(cases h;done)|(injection h with h;subst h;rfl)
def Dg(e:List It->XS->Option XS)(c:ah)(x y:AC)(k:List It)(s:XS):Option XS:=match Jb (c.ev s.t.get)with
 |none=>none
 |some b=>cond b (e (.code x::k) s) (e (.code y::k) s)
def Dh(b:List It->XS->Option XS)(id:Nat)(k:List It)(s:XS):Option XS:=match jh id k with
 |none=>none
 |some c=>b c s
def Di(X:XP)(b:List It->XS->Option XS)(l:List ai)(e:List cE)(k:List It)(s:XS):Option XS:=
 cond (C9 l&&e.isEmpty) (zo (qM X b) s.σ l s.t fun t=>fB s.v fun v=>b k ⟨t,s.σ,v⟩) (match e with
  |[]=>none
  |o::e=>zq s.v (qM X b) (o::e) s.t s.σ [] fun t σ=>fB s.v fun v=>b k ⟨t,σ,v⟩)
def UN(X:XP)(g:List It->XS->Option XS)(c:AC)(k:List It)(s:XS):Option XS:=match c with
 | .skip=>g k s
 | .ax l=>Df X g l k s
 | .seq a b=>g (.code a:: .code b::k) s
 | .block id c=>g (.code c:: .gn id::k) s
 | .exit id=>Dh g id k s
 | .cond c x y=>Dg g c x y k s
 | .loop c=>g (.code c:: .code (.loop c)::k) s
 | .ret=>some s
 | .ff l e=>Di X g l e k s
 | .bad=>none
def UO(X:XP)(b:List It->XS->Option XS)(it:It)(k:List It)(s:XS):Option XS:=match it with
 | .code c=>UN X b c k s
 | .gn _=>b k s
 | .inv _=>none
 | .ops l=>Df X b l k s
def Jc(X:XP)(b:List It->XS->Option XS)(k:List It)(s:XS):Option XS:=match k with
 |[]=>some s
 |it::k=>UO X b it k s
def exec(X:XP)(n:Nat):List It->XS->Option XS:=Nat.rec (motive:=fun _=>List It->XS->Option XS) (fun _ _=>none) (fun _ b=>Jc X b) n
def UP(X:XP)(n:Nat)(k:List It)(s:XS):exec X (n+1) k s=Jc X (exec X n) k s:=rfl
inductive Rl (X:XP) (s':XS) (n:Nat):List It->List It->Prop where
 |nil:Rl X s' n [] []
 |cons (it:It) {k k2:List It} (h:Rl X s' n k k2):Rl X s' n (it::k) (it::k2)
 |inv (c:AC) (I:St->Prop) {k k2:List It} (h:Rl X s' n k k2) (hI:∀j,j<=n->∀s,exec X j (.code (.loop c)::k) s=some s'->I s.st):Rl X s' n (.code (.loop c)::k) (.inv I::k2)
def Rl.less{X:XP}{s':XS}{n m:Nat}(e:m<=n){k k2:List It}(h:Rl X s' n k k2):Rl X s' m k k2:=by
 induction h with
 |nil=>exact .nil
 |cons it _ b=>exact .cons it b
 |inv c I _ hI b=>exact .inv c I b fun j g=>hI j (by omega)
def Rl.refl{X:XP}{s':XS}{n:Nat}:∀(k:List It),Rl X s' n k k
 |[]=>.nil
 |it::k=>.cons it (Rl.refl k)
def Rl.pop{X:XP}{s':XS}{n:Nat}{id:Nat}{k k2:List It}(h:Rl X s' n k k2):∀{e:List It},jh id k=some e->∃g,jh id k2=some g/\Rl X s' n e g:=by
 induction h with
 |nil=>intro e h;cases h
 |cons it h b=>
  rename_i k k2;intro e hp;cases it with
  |gn j=>
   simp only[jh]at hp⊢;by_cases i:j=id
   ·rw[if_pos i]at hp⊢;injection hp with hp;subst hp;exact⟨k2,rfl,h⟩
   ·rw[if_neg i]at hp⊢;exact b hp
  |code c=>exact b hp
  |ops l=>exact b hp
  |inv I=>exact b hp
 |inv c I h hI b=>intro e hp;exact b hp
section
variable {X:XP} {w0:World}
def Jd{b:XS}:∀{l:List V} {i:Nat} {t:TR} {k:TR->Option XS},zr i l t k=some b->∃e,k e=some b/\∀j,e.get j=if i<=j/\j<i+l.length then l.getD (j-i) .void else t.get j
 |[],i,t,k,h=>⟨t,h,fun j=>by rw[if_neg (by simp)]⟩
 |v::l,i,t,k,h=>by
  rw[UJ]at h;obtain⟨t1,p,r⟩:=TR.yR h;obtain⟨e,u,w⟩:=Jd p;refine⟨e,u,fun j=>?_⟩;rw[w,r];simp only[List.length_cons];by_cases g:j=i
  ·subst g;rw[if_neg (by omega),if_pos rfl,if_pos (by omega),cw];rfl
  ·rw[if_neg g];by_cases c:i+1<=j/\j<i+1+l.length
   ·rw[if_pos c,if_pos (by omega),show j-i=(j-(i+1))+1 from by omega];rfl
   ·rw[if_neg c,if_neg (by omega)]
def UQ{gB:Bool}{r:List ak}{n0:Nat}{b:XS}{v:V}{σ':H}(h:Db gB r n0 b=some (v,σ')):C4 r n0 (Same v σ') b.st:=by
 unfold Db at h;refine⟨_,IT (cond gB [] (vi n0 (b.σ.drop n0))) b,?_⟩;generalize ze (cond gB [] (vi n0 (b.σ.drop n0))) b=s at h⊢;simp only at h;cases i:aX s.st r with
 |none=>rw[i]at h;cases h
 |some vs=>
  rw[i]at h;simp only[I7,IC,TO]at h;refine⟨vs,i,?_⟩;cases gB with
  |true=>
   simp only[cond_true]at h;injection h with h;injection h with e g;exact .inl ⟨e,g⟩
  |false=>
   simp only[cond_false]at h;cases c:(pw 5 n0 (y9 n0 (aT vs))&&(dM n0 s.σ.length&&(s.σ.take n0).all (C1 n0)))with
   |false=>
    rw[c]at h;injection h with h;injection h with e g;exact .inl ⟨e,g⟩
   |true=>
    rw[c]at h;injection h with h;injection h with e g;simp only[bM]at c;have hn:n0<=s.σ.length:=fv c.2.1;exact .inr ⟨_,s.σ,TW n0 _,vg c.1,hn,H.xZ _,TX (by simp[hn]) c.2.2,e,g⟩
def Je(i:X.Ok w0){p:List It->XS->Option XS}(b:∀k s s' n0 Q,p k s=some s'->Q s'.st->W X.P w0 n0 Q k s.st):dB.Ok X.P w0 (qM X p):=by
 intro f args σ v σ' h;unfold qM at h;cases e:X.ext f args σ with
 |some r=>
  rw[e]at h;injection h with h;subst h;exact i.ext _ _ _ _ _ e
 |none=>
  rw[e]at h;simp only at h;cases hc:X.code.get f with
  |none=>rw[hc]at h;cases h
  |some c=>
   rw[hc]at h;simp only at h;obtain⟨fn,K⟩:=CT.Da i.code hc;unfold I8 at h;cases hl:cm args.length c.n with
   |false=>rw[hl]at h;cases h
   |true=>
    rw[hl]at h;simp only[cond_true]at h;split at h
    ·cases h
    ·rename_i s w;obtain⟨t,u,A⟩:=Jd w;simp only[nS]at u;have g:(⟨t,σ,X.vec f⟩:XS).st=⟨ji args,σ⟩:=by
      show(⟨t.get,σ⟩:St)=_;congr 1;funext j;rw[A,TR.CP];unfold ji;by_cases D:j<args.length
      ·rw[if_pos (by omega)];simp
      ·rw[if_neg (by omega)];rw[List.getD_eq_getElem?_getD,List.getElem?_eq_none (by omega)];rfl
     have hn:args.length<=fn.ntmps:=by rw[fP hl];exact K.hn
     refine UK (fun v σ' h=>?_) h;refine DC.IU K.hm K.hf K.hb K.ag K.dI hn K.en ?_;rw[<-g];exact b _ _ _ _ _ u (UQ h)
def UR(hX:X.Ok w0):∀(n:Nat) (k k2:List It) (s s':XS) (n0:Nat) (Q:St->Prop),exec X n k s=some s'->Rl X s' n k k2->Q s'.st->W X.P w0 n0 Q k2 s.st:=by
 intro n;induction n using Nat.strongRecOn with
 |_ n R=>
 intro k k2 s s' n0 Q h D G;cases n with
 |zero=>cases h
 |succ n=>
 have r:∀{k k2:List It} {s:XS},exec X n k s=some s'->Rl X s' n k k2->W X.P w0 n0 Q k2 s.st:=fun h D=>R n (A7 _) _ _ _ _ _ _ h D G;have u:dB.Ok X.P w0 (qM X (exec X n)):=Je hX fun k s s' n0 Q h G=>R n (A7 _) _ _ _ _ _ _ h (Rl.refl k) G;cases D with
 |nil=>
  injection h with h;subst h;exact .done G
 |inv c I D hI=>exact .inv (hI (n+1) (aA _) s h)
 |cons it D=>
 rename_i k k2;rw[UP]at h;have g:=D.less (mc n);have E:∀l,Df X (exec X n) l k s=some s'->W X.P w0 n0 Q (.ops l::k2) s.st:=by
  intro l h;cases l with
  |nil=>exact .xQ (r h g)
  |cons o l=>
   have h:De X (exec X n) o l k s=some s':=h;unfold De at h;split at h
   ·cases h
   ·rename_i b hg;cases b with
    |false=>
     obtain⟨J,i,w⟩:=ku h;simp only[nS]at i;refine .BR hg ?_;have:=r i (.cons _ g);show W X.P w0 n0 Q _ ⟨Env.put s.t.get o.dst .void,s.σ⟩;rw[<-w];exact this
    |true=>
     have h:Dd X (exec X n) o l k s=some s':=h;have A:zt (exec X n) o l k s=some s'->W X.P w0 n0 Q (.ops (o::l)::k2) s.st:=by
      intro h;unfold zt at h;rw[zh]at h;split at h
      ·unfold I9 at h;split at h
       ·cases h
       ·rename_i b _ _;simp only[C3,yQ]at h;refine .ek (IS s b) ?_;have hv:(qJ s b).v=s.v:=by unfold qJ;split<;>rfl
        rw[<-hv]at h;exact r h (.cons _ g)
      ·rename_i p hs;obtain⟨v,σ'⟩:=p;have hK:qK s.t.get s.σ o.ins (fun v σ'=>jo s.t o.dst v fun t=>fB s.v fun v=>exec X n (.ops l::k) ⟨t,σ',v⟩)=some s':=by
        unfold qK;rw[zh,hs];exact h
       obtain⟨v,σ',h0,T⟩:=zk hK;obtain⟨J,i,w⟩:=ku T;simp only[nS]at i;refine .kg hg h0 ?_;have:=r i (.cons _ g);show W X.P w0 n0 Q _ ⟨Env.put s.t.get o.dst v,σ'⟩;rw[<-w];exact this
     unfold Dd at h;split at h
     ·cases L:s.v with
      |false=>rw[L]at h;exact A h
      |true=>
       rw[L]at h;simp only[cond_true]at h;unfold Ja at h;split at h
       ·exact A h
       ·rename_i p U;obtain⟨v,σ'⟩:=p;obtain⟨e,size,bytes,x,y,olds,news,Y,hx,hy,hc,rfl,rfl⟩:=IV U;simp only[qC,yQ]at h;obtain⟨J,i,w⟩:=ku h;simp only[nS]at i;refine .nN hg Y hx hy hc ?_;have:=r i (.cons _ g);show W X.P w0 n0 Q _ ⟨Env.put s.t.get o.dst (V.vec (List.length s.σ) (olds.length+news.length)),_⟩;rw[<-w];exact this
     ·rename_i p hp;obtain⟨f,l'⟩:=p;have Y:=zi hp;simp only at h;obtain⟨fid,caps,v,σ',hf,Z,D⟩:=zm h;obtain⟨J,i,w⟩:=ku D;simp only[nS]at i;refine .xR hg Y hf (u _ _ _ _ _ Z) fun d τ hd=>?_;obtain⟨rfl,rfl⟩:=hd;have:=r i (.cons _ g);show W X.P w0 n0 Q _ ⟨Env.put s.t.get o.dst d,τ⟩;rw[<-w];exact this
 cases it with
 |inv I=>cases h
 |gn id=>exact .gn (r h g)
 |ops l=>exact E l h
 |code c=>
  cases c with
  |skip=>exact .skip (r h g)
  |ax l=>exact .ax (E l h)
  |seq a b=>exact .seq (r h (.cons _ (.cons _ g)))
  |block id c=>exact .block (r h (.cons _ (.cons _ g)))
  |ret=>injection h with h;subst h;exact .ret G
  |bad=>cases h
  |exit id=>
   have h:Dh (exec X n) id k s=some s':=h;unfold Dh at h;split at h
   ·cases h
   ·rename_i k' hp;obtain⟨k2',i,w⟩:=g.pop hp;exact .exit i (r h w)
  |cond c x y=>
   have h:Dg (exec X n) c x y k s=some s':=h;unfold Dg at h;split at h
   ·cases h
   ·rename_i b O;have O:=UM O;cases b with
    |true=>exact .cond (t:=true) O (fun _=>r h (.cons _ g)) (fun e=>by cases e)
    |false=>exact .cond (t:=false) O (fun e=>by cases e) (fun _=>r h (.cons _ g))
  |loop c=>
   refine .loop (α:={p:Nat×XS//p.1<=n+1/\exec X p.1 (.code (.loop c)::k) p.2=some s'}) (fun p=>p.1.2.st) (fun p=>p.1.1) ⟨(n+1,s),aA _,h⟩ (aV.refl _ _) (fun p=>?_);obtain⟨⟨m,t⟩,F,M⟩:=p;cases m with
   |zero=>cases M
   |succ m=>
    refine R m (by simp only at F;omega) (.code c:: .code (.loop c)::k) _ t s' n0 Q M (.cons _ (.inv c _ (D.less (by simp only at F;omega)) fun j hj s'' N=>?_)) G;exact⟨⟨(j,s''),by simp only at F⊢;omega,N⟩,by simp only;omega,aV.refl _ _⟩
  |ff l e=>
   have h:Di X (exec X n) l e k s=some s':=h;unfold Di at h;cases hq:(C9 l&&e.isEmpty)with
   |true=>
    rw[hq]at h;obtain⟨J,i,w⟩:=zp u h;simp only[nS]at i;exact .ff w (r i g)
   |false=>
    rw[hq]at h;simp only[cond_false]at h;cases e with
    |nil=>cases h
    |cons o e=>
     obtain⟨J,σ',past',i,w⟩:=qL _ u h;simp only[nS]at i;exact .aD (List.cons_ne_nil _ _) w (r i g)
def kz(X:XP)(n:Nat)(f:FuncId)(args:List V)(σ:H):Option (V×H):=qM X (exec X n) f args σ
def mW(b:X.Ok w0){n:Nat}{f:FuncId}{args:List V}{σ:H}{v:V}{σ':H}(h:kz X n f args σ=some (v,σ')):DC X.P w0 f args σ (Same v σ'):=
 Je b (fun k s s' n0 Q h c=>UR b n k k s s' n0 Q h (Rl.refl k) c) f args σ v σ' h
def isTrue:Option (V×H)->Bool
 |some (.c (.bool true),[])=>true
 |_=>false
def US{G:World->Prop}(hG:∀w w',G w->Below w.heap.size w w'->G w')(i:∀w,G w->X.Ok w){n:Nat}{f:FuncId}(h:isTrue (kz X n f [] [])=true){w0:World}(h0:G w0)(σ:H):DC X.P w0 f [] σ (Same (.c (.bool true)) σ):=by
 have p:kz X n f [] []=some (.c (.bool true),[]):=by
  unfold isTrue at h;split at h
  ·assumption
  ·cases h
 refine DC.uL (mW (i w0 h0) p).enters (fun κ w vs b g=>⟨.bool true,.c (.bool true),?_⟩);have r:vs=[]:=Fits.jZ g;subst r;have hw:=i w (hG w0 w h0 b.ext);refine(DC.calls (mW hw p) (vs:=[]) ⟨rfl,fun j t=>by simp at t⟩).mono ?_;rintro e w' ⟨v,d,σ',κ',rfl,⟨rfl,rfl⟩,u,A⟩;refine⟨?_,A⟩;cases u with
 |c h=>cases h;rfl
end
end
def cV(p:aa):Bool:=
 if p.k=0 then(ie p.name||ld p.name)&&p.n==0&&p.l.length==0
 else if p.k=1 then decide (p.n>=1)&&p.name==[]&&p.l.length==0
 else if p.k=2 then p.name==[]&&p.l.length==0
 else if p.k=3 then decide (p.n>=0)&&decide (p.n<=4611686018427387904)&&p.name==[]&&p.l.length==0
 else if p.k=4 then decide (p.n>=0)&&decide (p.n<=4611686018427387904)&&p.name==[]&&p.l.length==0
 else if p.k=5 then p.n==0&&p.name==[]&&p.l.length==1
 else if p.k=6 then p.n==0&&decide (2<=p.l.length)&&(p.l.headD .none).k !=6&&p.name==[]
 else false
mutual
def aP:aa->Bool
 | .mk k s n l=>cV (.mk k s n l)&&vn l
def vn:List aa->Bool
 |[]=>true
 |x::l=>aP x&&vn l
end
def Jf:∀(l:List aa),vn l=l.all aP
 |[]=>by simp[vn]
 |x::l=>by rw[vn,mg,Jf l]
def kA(p:aa):aP p=(cV p&&p.l.all aP):=by
 cases p;rw[aP,Jf];rfl
mutual
def bD(m:Int):aa->Bool
 | .mk k _ n l=>(k==2||!(decide (n>m)||decide (n< -m)))&&vo m l
def vo(m:Int):List aa->Bool
 |[]=>true
 |x::l=>bD m x&&vo m l
end
def Jg(m:Int):∀(l:List aa),vo m l=l.all (bD m)
 |[]=>by simp[vo]
 |x::l=>by rw[vo,mg,Jg m l]
def Dj(m:Int)(p:aa):bD m p=((p.k==2||!(decide (p.n>m)||decide (p.n< -m)))&&p.l.all (bD m)):=by
 cases p;rw[bD,Jg];rfl
def Jh{l:List aa}(h:0<l.length):l.headD .none=l[0]:=by
 cases l with
 |nil=>simp at h
 |cons x l=>rfl
def V.px{ι:Nat->Nat}{n m:Nat}(hid:∀b,b<n->ι b=b)(p:n<=m){x:V}(h:V.low n x):V.cy ι m x x:=by
 induction h with
 |void=>exact .void
 |any=>exact .any
 |c x=>exact .c x
 |@ptr b o h=>have:=V.cy.ptr (ι:=ι) (m:=m) (j:=b) (o:=o) (by omega);rwa [hid b h]at this
 |@aC b r h=>have:=V.cy.aC (ι:=ι) (m:=m) (j:=b) (r:=r) (by omega);rwa [hid b h]at this
 |ae r=>exact .ae r
 |fn h e=>exact .fn rfl fun k g i=>e _ (bg g)
 |cu=>exact .cu
 |@mp b h=>have:=V.cy.mp (ι:=ι) (m:=m) (j:=b) (by omega);rwa [hid b h]at this
 |cN=>exact .cN
 |@vec b k h=>have:=V.cy.vec (ι:=ι) (m:=m) (j:=b) (k:=k) (by omega);rwa [hid b h]at this
 |agg h e=>exact .agg rfl fun k g i=>e _ (bg g)
 |au h e=>exact .au rfl fun k g i=>e _ (bg g)
def ad.px{ι:Nat->Nat}{n m:Nat}(hid:∀b,b<n->ι b=b)(c:n<=m){B:ad}(h:∀cs tg,B= .cells cs tg->∀x∈cs,V.low n x):ad.cy ι m B B:=by
 cases B with
 |cells cs tg=>exact .cells rfl fun k g i=>V.px hid c (h cs tg rfl _ (bg g))
 |spare e s n=>exact .spare e s n
 |mp l=>exact .mp l
 |vec e s cs=>exact .vec e s cs
 |gone=>exact .gone
section
variable {P:Program} {w0:World} {f:FuncId} {args:List V} {σ:H}
end
def UT(σ:H)(e size k:Nat)(cs:List C)(c:Int)(v:V)(b:H):Prop:=∃L g,v= .au [.vec (σ.length+L.length) k,.c (.int .i64 c)]/\b=σ++(L++ .vec e size cs::g)
section
variable {P:Program} {w0:World} {f:FuncId} {args:List V} {σ:H}
def DC.Ji{e size k:Nat}{cs:List C}{c:Int}(hd:DC P w0 f args σ (UT σ e size k cs c)):DC P w0 f args σ (Same (.au [.vec σ.length k,.c (.int .i64 c)]) (σ++[.vec e size cs])):=by
 refine⟨hd.enters,fun κ w vs r u=>(hd.run κ w vs r u).mono ?_⟩;rintro e' w' ⟨v,d0,O,κ',rfl,⟨L,M,rfl,rfl⟩,Q,R,T⟩;have D:=r.ok;obtain⟨ι,hid,p⟩:∃ι:Nat->Nat,(∀b,b<σ.length->ι b=b)/\ι σ.length=σ.length+L.length:=
  ⟨fun j=>if j<σ.length then j else σ.length+L.length,fun b E=>if_pos E,if_neg (p8 _)⟩
 have g:∀j,j<σ.length+1->j<σ.length\/j=σ.length:=fun j h=>by omega
 refine⟨v,_,_,κ'.pack ι (σ.length+1),rfl,⟨rfl,rfl⟩,K.yS Q (fun b E=>hid b (by rw[<-r.n];exact E)) (by rw[r.n];omega),R.pack (fun j A=>?_) (fun i j U A t=>?_) (by simp) (fun j A X Y=>?_),T.pack ?_⟩
 ·rcases g j A with h|rfl
  ·rw[hid j h];simp;omega
  ·rw[p];simp
 ·rcases g i U with h|rfl<;>rcases g j A with N|rfl
  ·rwa [hid i h,hid j N]at t
  ·rw[hid i h,p]at t;omega
  ·rw[hid j N,p]at t;omega
  ·rfl
 ·rcases g j A with h|rfl
  ·have F:(σ++(L++ad.vec e size cs::M))[ι j]=σ[j]:=by
    rw[nG,hid j h,cr h,aN h]
   have G:(σ++[ad.vec e size cs])[j]=σ[j]:=cM h;rw[F,G];exact ad.px hid (mc _) (fun cs tg hc x Z=>D _ (bg h) cs tg hc x Z)
  ·have F:(σ++(L++ad.vec e size cs::M))[ι σ.length]=ad.vec e size cs:=by
    rw[nG,p,da (by omega),fu,da (aA _),cw];rfl
   have G:(σ++[ad.vec e size cs])[σ.length]=ad.vec e size cs:=by simp
   rw[F,G];exact .vec _ _ _
 ·refine .au rfl fun q hq J=>?_
  match q,hq,J with
  |0,_,_=>
   have:=V.cy.vec (ι:=ι) (m:=σ.length+1) (j:=σ.length) (k:=k) (by omega);rw[p]at this;exact this
  |1,_,_=>exact .c _
end
section
variable {P:Program} {w0:World} {f:FuncId} {args:List V} {σ:H}
def DC.Dk{e size k:Nat}{cs:List C}{b0 p:Nat}{A B:List V}{tg:Option TypeId}{d:V}{y:V}(hp:σ[p]?=some (.cells (A++y::B) tg))(J:V.low σ.length d)
  (hd:DC P w0 f args σ (fun v τ=>V.wk v d/\∃L M,τ=(σ.set b0 .gone).set p (.cells (A++ .vec (σ.length+L.length) k::B) tg)++(L++ .vec e size cs::M))):
  DC P w0 f args σ (Same d ((σ.set b0 .gone).set p (.cells (A++ .vec σ.length k::B) tg)++[.vec e size cs])):=by
 refine⟨hd.enters,fun κ w vs r D=>(hd.run κ w vs r D).mono ?_⟩;rintro e' w' ⟨v,d0,σ0,κ',rfl,⟨hw,L,M,rfl⟩,h3,U,h5⟩;have E:=r.ok _ (List.mem_of_getElem? hp) _ _ rfl;have Z:∀x∈A,V.low σ.length x:=fun x u=>E x (List.mem_append_left _ u);have G:∀x∈B,V.low σ.length x:=fun x u=>E x (List.mem_append_right _ (List.mem_cons_of_mem _ u));replace hp:=(List.getElem?_eq_some_iff.1 hp).1;obtain⟨σ1,N,O,X⟩:∃σ1:H,σ1=σ.set b0 .gone/\σ1.length=σ.length/\(∀B∈σ1,∀cs tg,B= .cells cs tg->∀x∈cs,V.low σ1.length x):=⟨_,rfl,bz ..,fun B G cs tg hc x u=>by
  rw[bz];rcases List.mem_or_eq_of_mem_set G with G|rfl
  ·exact r.ok B G cs tg hc x u
  ·cases hc⟩
 have hn:κ.n=σ1.length:=r.n.trans O.symm;rw[<-N]at U⊢;rw[<-O]at U Z G J hp⊢;clear r D;obtain⟨ι,hid,t⟩:∃ι:Nat->Nat,(∀b,b<σ1.length->ι b=b)/\ι σ1.length=σ1.length+L.length:=
  ⟨fun j=>if j<σ1.length then j else σ1.length+L.length,fun b Y=>if_pos Y,if_neg (p8 _)⟩
 have c:∀j,j<σ1.length+1->j<σ1.length\/j=σ1.length:=fun j h=>by omega
 refine⟨v,_,_,κ'.pack ι (σ1.length+1),rfl,⟨rfl,rfl⟩,K.yS h3 (fun b Y=>hid b (by rw[<-hn];exact Y)) (by rw[hn];omega),U.pack (fun j Q=>?_) (fun i j hi Q F=>?_) (by simp) (fun j Q hj' hι=>?_),(RV.wk hw h5).pack (V.px hid (mc _) J)⟩
 ·rcases c j Q with h|rfl
  ·rw[hid j h];simp;omega
  ·rw[t];simp
 ·rcases c i hi with h|rfl<;>rcases c j Q with kk|rfl
  ·rwa [hid i h,hid j kk]at F
  ·rw[hid i h,t]at F;omega
  ·rw[hid j kk,t]at F;omega
  ·rfl
 ·rcases c j Q with h|rfl
  ·by_cases e0:j=p
   ·subst e0;have R:((σ1.set j (.cells (A++ .vec (σ1.length+L.length) k::B) tg))++(L++ad.vec e size cs::M))[ι j]= .cells (A++ .vec (σ1.length+L.length) k::B) tg:=by
     rw[nG,hid j h,cr (by simpa using h),bW h]
    have T:((σ1.set j (.cells (A++ .vec σ1.length k::B) tg))++[ad.vec e size cs])[j]= .cells (A++ .vec σ1.length k::B) tg:=by
     rw[nG,cr (by simpa using h),bW h]
    rw[R,T];refine .cells (by simp) fun q hq hq'=>?_;rcases Nat.lt_trichotomy q A.length with g|g|g
    ·rw[cM g,cM g];exact V.px hid (mc _) (Z _ (bg g))
    ·subst g;rw[dY (aA _),dY (aA _)];simp only[cw,List.getElem_cons_zero];have:=V.cy.vec (ι:=ι) (m:=σ1.length+1) (j:=σ1.length) (k:=k) (by omega);rw[t]at this;exact this
    ·have g2:q-A.length-1<B.length:=by simp at hq;omega
     have e3:∀x:V,∀u:q<(A++x::B).length,(A++x::B)[q]=B[q-A.length-1]:=fun x u=>by
      rw[dY (by omega),List.getElem_cons,dif_neg (by omega)]
     rw[e3,e3];exact V.px hid (mc _) (G _ (bg g2))
   ·have R:((σ1.set p (.cells (A++ .vec (σ1.length+L.length) k::B) tg))++(L++ad.vec e size cs::M))[ι j]=σ1[j]:=by
     rw[nG,hid j h,cr (by simpa using h),bA (by omega),aN h]
    have T:((σ1.set p (.cells (A++ .vec σ1.length k::B) tg))++[ad.vec e size cs])[j]=σ1[j]:=by
     rw[nG,cr (by simpa using h),bA (by omega),aN h]
    rw[R,T];exact ad.px hid (mc _) (fun cs tg hc x u=>X _ (bg h) cs tg hc x u)
  ·have R:((σ1.set p (.cells (A++ .vec (σ1.length+L.length) k::B) tg))++(L++ad.vec e size cs::M))[ι σ1.length]=ad.vec e size cs:=by
    rw[nG,t,da (by simp),bz,fu,da (aA _),cw];rfl
   have T:((σ1.set p (.cells (A++ .vec σ1.length k::B) tg))++[ad.vec e size cs])[σ1.length]=ad.vec e size cs:=by
    rw[nG,da (by simp),bz,cw];rfl
   rw[R,T];exact .vec _ _ _
end
abbrev qN(l:Nat):Fence:=Fence.wide.inRound l
def Op.plain:Op->Bool
 | .defer _=>false
 |_=>true
section
variable {P:Program} {l m:Nat} {Q:Exit->Act->World->Prop} {a:Act} {w:World}
def UU{f:FuncId}{args:Array Value}{R:Ending->World->Prop}(h:Calls P f args w R):CallsIn (qN l) m P f args w R:=CallsIn.inRound l (callsIn_wide.2 h)
def UW{b:String}{args:Array Value}{R:Value->World->Prop}(h:Rows P b args w R):RowsIn (qN l) m P b args w R:=fun c cs _=>let ⟨v,w',r,s⟩:=h c cs;⟨v,w',r,stepsIn_wide.2 s⟩
def UX{o:Oper}{next b:Act->World->Prop}(hd:Op.plain o.op=true)(hn:∀a w,next a w->b a w)(h:o.wp P a w next Q):o.wpIn (qN l) m P a w b Q:=by
 refine⟨fun f _=>trivial,?_⟩;rw[show(qN l).round=some l from rfl,Oper.semAt_some l _ _ (fun c e=>by rw[e]at hd;cases hd)];unfold Oper.wp at h;generalize (execOp a.eval o).run P w=r at h;cases r with
 |ok x w'=>
  cases x<;>simp only[Oper.upon,Oper.uponIn]at h⊢<;>
   first
    |exact hn _ _ h
    |exact⟨fun e=>(by cases e),UU (h.mono fun e i g=>by cases e<;>first|exact hn _ _ g|exact g)⟩
    |exact⟨fun e=>(by cases e),UW (h.mono fun _ _ g=>hn _ _ g)⟩
    |exact h.elim
    |exact h
 |halt x w'=>cases x<;>simp only[Oper.upon,Oper.uponIn]at h⊢<;>first|exact h|exact h.elim
def Jj{ops:Array Oper}(c:¬LetsOut Q)(hp:∀o∈ops,Op.plain o.op=true):∀{fuel:Nat} {b:Array Bool} {a:Act} {w:World},wpAny P .any ops Q fuel b a w->wpAnyIn (qN l) m P .any ops Q fuel b a w
 |0,b,a,w,h=>h
 |fuel+1,b,a,w,h=>by
  unfold wpAny at h;unfold wpAnyIn;refine⟨h.1,fun i p=>?_⟩;have h:=h.2 i p;have j:∀a w,wpAny P .any ops Q fuel (b.setIfInBounds i true) a w->wpAnyIn (qN l) m P .any ops Q fuel (b.setIfInBounds i true) a w:=fun a w h=>Jj c hp h;unfold wpOp at h;unfold wpOpIn;split
  ·rename_i g;rw[g]at h;exact j _ _ h
  ·rename_i o g;rw[g]at h;simp only at h;split
   ·rename_i hw;rw[if_pos hw]at h;exact UX (hp o (Array.mem_of_getElem? g)) j (h.resolve_right fun e=>c e.2)
   ·rename_i hw;rw[if_neg hw]at h;exact⟨fun f _=>trivial,j _ _ h⟩
end
section
variable {P:Program} {w0 w w':World} {κ κ0:K} {σ σ':H} {a:Act} {ρ ρ':Env} {n n0:Nat} {Q:St->Prop} {s:St} {l m:Nat}
end
mutual
def bn:al->Nat
 | .mk _ _ _ l _=>1+cz l
def cz:List al->Nat
 |[]=>0
 |p::l=>bn p+cz l
end
def nV(p:al):bn p=1+cz p.l:=by cases p;rw[bn];rfl
mutual
def Jk:∀(p:al) (n:Int),0<=gJ p n->gJ p n=n-bn p
 | .mk _ _ _ l _,n,h=>by
   rw[gJ]at h⊢;rw[Jl l (n-1) h,bn];omega
def Jl:∀(l:List al) (n:Int),0<=gq l n->gq l n=n-cz l
 |[],n,h=>by rw[gq,cz];omega
 |p::l,n,h=>by
  rw[gq]at h⊢;split at h
  ·rename_i h0;rw[if_pos h0];by_cases b:0<=gJ p n
   ·rw[Jl l _ h,Jk p n b,cz];omega
   ·rw[H5 b]at h;omega
  ·omega
end
def vp(f:List C->Option aa):List (List C)->Option (List aa)
 |[]=>some []
 |r::l=>match f r with
  |none=>none
  |some x=>match vp f l with
   |none=>none
   |some y=>some (x::y)
def qO:Nat->List C->Option aa
 |0,_=>none
 |d+1,cs=>match cs with
  |[.int .i64 k,.str s,.int .i64 n,.sl rows]=>match vp (qO d) rows with
   |none=>none
   |some l=>some (.mk k s n l)
  |_=>none
def Dl{f:List C->Option aa}(hf:∀r x,f r=some x->r=x.cs):∀{l:List (List C)} {y:List aa},vp f l=some y->l=y.map aa.cs
 |[],y,h=>by injection h with h;subst h;rfl
 |r::l,y,h=>by
  unfold vp at h;split at h
  ·cases h
  ·rename_i x b;split at h
   ·cases h
   ·rename_i z c;injection h with h;subst h;rw[ck,<-Dl hf c,<-hf r x b]
def vq:∀{d:Nat} {cs:List C} {t:aa},qO d cs=some t->cs=t.cs
 |0,_,_,h=>by cases h
 |d+1,cs,t,h=>by
  unfold qO at h;split at h
  ·rename_i k s n rows;split at h
   ·cases h
   ·rename_i l hl;injection h with h;subst h;rw[aa.aG,aO,aQ,aL,aH,Dl (fun r x=>vq) hl]
  ·cases h
def zu:List (List C)->Option (List eO)
 |[]=>some []
 |r::l=>match r with
  |[.str s,.int .i64 p,.int .i64 f]=>match zu l with
   |none=>none
   |some y=>some (⟨s,p,f⟩::y)
  |_=>none
def Jm:∀{l:List (List C)} {y:List eO},zu l=some y->l=y.map eO.cs
 |[],y,h=>by injection h with h;subst h;rfl
 |r::l,y,h=>by
  unfold zu at h;split at h
  ·split at h
   ·cases h
   ·rename_i z b;injection h with h;subst h;rw[ck,<-Jm b];rfl
  ·cases h
def zw(v:V):Option (List C):=fx v.af
def py(σ:H)(b:Nat)(X Y Z U:ad):H:=(((σ.set b X).set (b+1) Y).set (b+2) Z).set (b+3) U
section
variable {σ:H} {b:Nat}
@[simp] theorem vr (X Y Z U:ad):(py σ b X Y Z U).length=σ.length:=by simp[py]
def UY(x:ad)(L:H)(X Y Z U:ad):(py σ b X Y Z U++x::L)[σ.length]?=some x:=by
 rw[da (by simp),vr,cw];rfl
def UZ(k:Nat)(L:H)(X Y Z U:ad):(py σ b X Y Z U++L)[σ.length+k]?=L[k]?:=by
 rw[da (by simp),vr,fu]
def U0(x:ad)(L:H)(X Y Z U:ad):(py σ b X Y Z U++L).set σ.length x=py σ b X Y Z U++L.set 0 x:=by
 rw[gX _ _ (by simp),vr,cw]
def U1(k:Nat)(x:ad)(L:H)(X Y Z U:ad):(py σ b X Y Z U++L).set (σ.length+k) x=py σ b X Y Z U++L.set k x:=by
 rw[gX _ _ (by simp),vr,fu]
end
def eD(g:FuncId)(e:List V->H->Option (V×H))(r:dB):dB:=fun f b σ=>cond (cm f g) (e b σ) (r f b σ)
def Jn:dB:=fun _ _ _=>none
def U2{P:Program}{w0:World}:dB.Ok P w0 Jn:=fun _ _ _ _ _ h=>by cases h
def eY{P:Program}{w0:World}{g:FuncId}{e:List V->H->Option (V×H)}{r:dB}(i:∀b σ v σ',e b σ=some (v,σ')->DC P w0 g b σ (Same v σ'))(j:dB.Ok P w0 r):dB.Ok P w0 (eD g e r):=by
 intro f b σ v σ' h;unfold eD at h;cases c:cm f g with
 |true=>
  rw[c]at h;have:=fP c;subst this;exact i _ _ _ _ h
 |false=>
  rw[c]at h;exact j _ _ _ _ _ h
def pz(c e:List V->H->Option (V×H)):List V->H->Option (V×H):=fun b σ=>match c b σ with
 |some r=>some r
 |none=>e b σ
def sR{P:Program}{w0:World}{f:FuncId}{c e:List V->H->Option (V×H)}(g:∀b σ v σ',c b σ=some (v,σ')->DC P w0 f b σ (Same v σ'))(i:∀b σ v σ',e b σ=some (v,σ')->DC P w0 f b σ (Same v σ'))(b:List V)(σ:H)(v:V)(σ':H)(h:pz c e b σ=some (v,σ')):DC P w0 f b σ (Same v σ'):=by
 unfold pz at h;split at h
 ·rename_i r j;injection h with h;subst h;exact g _ _ _ _ j
 ·exact i _ _ _ _ h
def Dm:List Nat->Nat->Bool
 |[],_=>false
 |a::l,f=>cond (cm f a) true (Dm l f)

end Go.Lamb
namespace Go.Proofs.YtdlkenpilhakfaaGreatDoor
open Go.RowKit Go.Lamb
theorem Gj(c:UInt8)(w:World):Calls prog 114 #[.int .u8 c.toNat] w (eZ (.bool (nn c)) w):=by
 go_enter func114,ntmps114
 go_wp2
 all_goals go_ret
 all_goals (refine eT ?_;rw[kN];simp[nn];omega)
theorem ac7(c:UInt8)(w:World):Calls prog 166 #[.int .u8 c.toNat] w (eZ (.bool (np c)) w):=by
 go_enter func166,ntmps166
 go_wp2
 all_goals go_ret
 all_goals (refine eT ?_;rw[kN];simp[np];omega)
theorem ac8(c:UInt8)(w:World):Calls prog 168 #[.int .u8 c.toNat] w (eZ (.bool (wO c)) w):=by
 go_enter func168,ntmps168
 go_wp2
 all_goals go_ret
 all_goals (refine eT ?_;rw[kN];simp[wO];omega)
theorem ac9(c:UInt8)(w:World):Calls prog 116 #[.int .u8 c.toNat] w (eZ (.bool (kJ c)) w):=by
 go_enter func116,ntmps116
 go_wp2_with (first
  |(go_at_call 114;refine(Gj c _).mono ?_;rintro e w' ⟨rfl,rfl⟩)
  |(go_at_call 168;refine(ac8 c _).mono ?_;rintro e w' ⟨rfl,rfl⟩)
  |(go_at_call 166;refine(ac7 c _).mono ?_;rintro e w' ⟨rfl,rfl⟩))
 all_goals go_ret
 all_goals (refine eT ?_;rw[kN];simp[kJ, *])
 all_goals omega

theorem Gw(c:UInt8)(w:World):Calls prog 134 #[.int .u8 c.toNat] w (eZ (.bool (nn c)) w):=by
 go_enter func134,ntmps134
 go_wp2
 all_goals go_ret
 all_goals (refine eT ?_;rw[kN];simp[nn];omega)
theorem adV(c:UInt8)(w:World):Calls prog 192 #[.int .u8 c.toNat] w (eZ (.bool (np c)) w):=by
 go_enter func192,ntmps192
 go_wp2
 all_goals go_ret
 all_goals (refine eT ?_;rw[kN];simp[np];omega)
theorem Qk(c:UInt8)(w:World):Calls prog 135 #[.int .u8 c.toNat] w (eZ (.bool (kJ c)) w):=by
 go_enter func135,ntmps135
 go_wp2_with (first
  |(go_at_call 134;refine(Gw c _).mono ?_;rintro e w' ⟨rfl,rfl⟩)
  |(go_at_call 192;refine(adV c _).mono ?_;rintro e w' ⟨rfl,rfl⟩))
 all_goals go_ret
 all_goals (refine eT ?_;rw[kN];simp[kJ,wO, *])
 all_goals omega
theorem adW(i:Nat)(h:i<lq.length)(c:UInt8)(hn:c∉lq.take i)(hc:lq[i]≠c):c∉lq.take (i+1):=by
 rw[List.take_succ_eq_append_getElem h];simp only[List.mem_append,List.mem_singleton,not_or];exact⟨hn,fun e=>hc e.symm⟩
theorem DM(c:UInt8)(w:World):Calls prog 139 #[.int .u8 c.toNat] w (eZ (.bool (kB c)) w):=by
 go_enter func139,ntmps139
 go_wp2_with fail
 go_loop [3] (fun v=>∃k:Nat,k<=16/\v= .int .i64 k/\Hid (c∉lq.take k)) (fun v=>16-(intOf v).toNat)
 case atStart=>exact⟨0,by omega,rfl,by show¬_;simp⟩
 case round=>
  obtain⟨k,i,rfl,g⟩:=hrel;by_cases b:k<16
  ·have hl:k<lq.length:=b
   go_wp2_with fail
   ·rename_i h _;have e:lq[k]=c:=UInt8.toNat_inj.1 (Int.ofNat.inj (beq_iff_eq.1 h))
    go_ret
    exact eT (aej.2 (e▸List.getElem_mem hl)).symm
   ·rename_i h;have e:lq[k]≠c:=fun e=>(beq_eq_false_iff_ne.1 h) (congrArg (fun d:UInt8=>(d.toNat:Int)) e)
    go_round
    case rel=>exact⟨k+1,by omega,by go_num,adW k hl c g.out e⟩
    case measure=>simp[intOf];omega
  ·obtain rfl:k=16:=by omega
   go_wp2_with fail
   go_ret
   refine eT ?_;have h:=g.out;rw[show lq.take 16=lq from rfl]at h;unfold kB;rw[Bool.eq_false_iff.2 (fun e=>h (aej.1 e))]

theorem Ql{p:UInt8->Bool}{l:List UInt8}{k:Nat}(h:k<l.length)(hc:p l[k]=false):l.all p=false:=by
 rw[List.all_eq_false];exact⟨l[k],List.getElem_mem h,by simp[hc]⟩
theorem Qm{p:UInt8->Bool}{l:List UInt8}{k:Nat}(h:k<l.length)(ha:(l.take k).all p=true)(hc:p l[k]=true):(l.take (k+1)).all p=true:=by
 rw[List.take_succ_eq_append_getElem h,List.all_append,ha];simp[hc]
set_option maxHeartbeats 2000000 in
theorem WW(l:List UInt8)(w:World)(hl:l.length<=140737488355328):Calls prog 82 #[.string (bs l)] w (eZ (.bool (ie l)) w):=by
 cases l with
 |nil=>
  go_enter func82,ntmps82
  go_wp2_with fail
  go_ret
  exact eT rfl
 |cons c r=>
  have t:r.length+1<=140737488355328:=hl;by_cases g:32<r.length+1
  ·go_enter func82,ntmps82
   go_wp2_with fail
   go_ret
   refine eT ?_;have:iq (c::r)=false:=by simp[iq]at g⊢;omega
   simp[ie,this]
  ·have hf:iq (c::r)=true:=by simp[iq]at g⊢;omega
   cases i:nn c
   ·go_enter func82,ntmps82
    go_wp2_with (first
    |(go_at_call 134;refine(Gw _ _).mono ?_;rintro e w' ⟨rfl,rfl⟩))
    go_ret
    exact eT (by simp[ie,pW,i])
   ·have u:=jY hf;clear hf
    go_enter func82,ntmps82
    go_wp2_with (first
    |(go_at_call 134;refine(Gw _ _).mono ?_;rintro e w' ⟨rfl,rfl⟩))
    go_loop [3] (fun v=>∃k:Nat,k<=(c::r).length/\v= .int .i64 k/\Hid (((c::r).take k).all kJ=true)) (fun v=>(c::r).length-(intOf v).toNat)
    case atStart=>exact⟨0,Nat.zero_le _,rfl,by show _=_;simp⟩
    case round=>
     obtain⟨k,D,rfl,j⟩:=hrel;by_cases b:k<(c::r).length
     ·have p:k<r.length+1:=b;cases hc:kJ ((c::r)[k])
      ·have h:=jY (Ql b hc)
       go_wp2_with (first|(go_at_call 135;refine(Qk _ _).mono ?_;rintro e w' ⟨rfl,rfl⟩))
       go_ret
       exact eT (by simp only[ie,h.out,Bool.and_false])
      ·have h:=jY (Qm b j.out hc)
       go_wp2_with (first|(go_at_call 135;refine(Qk _ _).mono ?_;rintro e w' ⟨rfl,rfl⟩))
       go_round
       case rel=>exact⟨k+1,b,by go_num,h⟩
       case measure=>simp[intOf];omega
     ·have A:r.length+1<=k:=Nat.le_of_not_lt b;have ha:=j.out;rw[List.take_of_length_le (by omega)]at ha;have h:=jY ha;clear ha
      go_wp2_with fail
      go_ret
      exact eT (by simp only[ie,h.out,u.out,pW,i,Bool.and_self])

set_option maxHeartbeats 2000000 in
theorem WY(l:List UInt8)(w:World)(hl:l.length<=140737488355328):Calls prog 90 #[.string (bs l)] w (eZ (.bool (ld l)) w):=by
 by_cases h:l=[44]\/l=[59]\/l=[33]
 ·rcases h with rfl|rfl|rfl
  all_goals
   go_enter func90,ntmps90
   go_wp2_with fail
   go_ret
   exact eT (by decide)
 ·have r:¬l=[44]:=fun e=>h (.inl e);have t:¬l=[59]:=fun e=>h (.inr (.inl e));have u:¬l=[33]:=fun e=>h (.inr (.inr e));have m1:(l==[44])=false:=by simpa using r
  have D:(l==[59])=false:=by simpa using t
  have E:(l==[33])=false:=by simpa using u
  have b:(decide (l.length=1)&&pW rN.contains l)=false:=by
   rw[Bool.eq_false_iff];intro e;rw[Bool.and_eq_true]at e;obtain⟨c,rfl⟩:=List.length_eq_one_iff.1 (of_decide_eq_true e.1);have:=e.2;simp[pW,rN]at this;apply h;rcases this with rfl|rfl|rfl<;>simp
  have A:=jY b;clear h b
  go_enter func90,ntmps90
  go_wp2_with fail
  go_loop [3] (fun v=>∃k:Nat,k<=l.length/\v= .int .i64 k/\Hid ((l.take k).all kB=true)) (fun v=>l.length-(intOf v).toNat)
  case atStart=>exact⟨0,Nat.zero_le _,rfl,by show _=_;simp⟩
  case round=>
   obtain⟨k,F,rfl,p⟩:=hrel;by_cases g:k<l.length
   ·cases hc:kB l[k]
    ·have i:=jY (Ql g hc)
     go_wp2_with (first|(go_at_call 139;refine(DM _ _).mono ?_;rintro e w' ⟨rfl,rfl⟩))
     go_ret
     exact eT (by simp only[ld,i.out,A.out,Bool.or_self,Bool.and_false])
    ·have i:=jY (Qm g p.out hc)
     go_wp2_with (first|(go_at_call 139;refine(DM _ _).mono ?_;rintro e w' ⟨rfl,rfl⟩))
     go_round
     case rel=>exact⟨k+1,g,by go_num,i⟩
     case measure=>simp[intOf];omega
   ·have ha:=p.out;rw[List.take_of_length_le (by omega)]at ha;have i:=jY ha;clear ha
    go_wp2_with fail
    all_goals go_ret
    all_goals refine eT ?_
    all_goals rw[Bool.eq_iff_iff]
    all_goals simp[ld,i.out,iq]
    all_goals have j:l=[]↔l.length=0:=List.length_eq_zero_iff.symm
    all_goals rw[j]
    all_goals omega
